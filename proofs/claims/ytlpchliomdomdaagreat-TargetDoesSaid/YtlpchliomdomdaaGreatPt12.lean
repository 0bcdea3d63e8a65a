import Derived.Test.YtlpchliomdomdaaGreatPt11
namespace Go.Proofs.YtlpchliomdomdaaGreat.LgTab
open Go Lg
set_option linter.unusedVariables false
set_option linter.unusedSimpArgs false
set_option maxRecDepth 8000
def shRow (g:Gd) (top bot:Nat) (n:Int) (p:Pn) (r:Nat):List Cel:=if (top:Int)≤r+n∧r+n≤bot then rowL g ((r:Int)+n).toNat else List.replicate g.w (blankC p)
def shTo (g:Gd) (top bot:Nat) (n:Int) (p:Pn):Nat→Gd
 | 0=>g
 | i+1=>setRow (shTo g top bot n p i) (top+i) (shRow g top bot n p (top+i))
def shG (g:Gd) (top bot:Nat) (n:Int) (p:Pn):Gd:=shTo g top bot n p (bot+1-top)
theorem shRow_len {g:Gd} (o:OkG g) {top bot:Nat} (hb:bot<g.h) (n:Int) (p:Pn) (r:Nat):(shRow g top bot n p r).length=g.w:=by
 unfold shRow
 split
 ·exact rowL_len o (by omega)
 ·simp
theorem shTo_ok {g:Gd} (o:OkG g) {top bot:Nat} (hb:bot<g.h) (n:Int) (p:Pn):∀ i,top+i≤bot+1→OkG (shTo g top bot n p i)∧(shTo g top bot n p i).h=g.h∧(shTo g top bot n p i).w=g.w∧(shTo g top bot n p i).cells.length=g.cells.length
 | 0,_=>⟨o,rfl,rfl,rfl⟩
 | i+1,hi=>by
  obtain ⟨o1,e1,e2,e3⟩:=shTo_ok (top:=top) o hb n p i (by omega)
  have hr:top+i<(shTo g top bot n p i).h:=by rw [e1];omega
  have o':=o1.setRow hr (shRow g top bot n p (top+i)) (by rw [shRow_len (top:=top) o hb,e2])
  refine ⟨o',e1,e2,?_⟩
  have:=o'.2.2.2.2
  show (setRow _ _ _).cells.length=_
  rw [this]
  show (shTo g top bot n p i).h*(shTo g top bot n p i).w=_
  rw [e1,e2,o.2.2.2.2]
theorem rowOff_w {g G:Gd} (h:G.w=g.w) (r:Nat):rowOff G r=rowOff g r:=by rw [rowOff_def,rowOff_def,h]
set_option maxHeartbeats 4000000 in
theorem sp147 (k:Nat) (g:Gd) (o:OkG g) (hl:g.cells.length≤100000) (top bot:Nat) (ht:top≤bot) (hb:bot<g.h) (n:Int) (hn : -1000≤n∧n≤1000) (p:Pn):evFun (clOf (modsR tab (k+4)) 3) s147 [gdD g,I top,I bot,I n,pnD p]=some (gdD (shG g top bot n p),[]):=by
 have w1:=fun q=>sp144 q g o hl
 have hh:=o.2.1
 have c0:¬(top:Int)<0:=by omega
 have c1:¬(g.h:Int)≤bot:=by omega
 have c2:¬(bot:Int)<top:=by omega
 have hN:bot+1-top<rounds:=by simp [rounds];omega
 obtain ⟨N,hNe⟩:∃ N,N=bot+1-top:=⟨_,rfl⟩
 have hG:shG g top bot n p=shTo g top bot n p N:=by rw [hNe];rfl
 have h0:shTo g top bot n p 0=g:=rfl
 rw [hG]
 rw [evFun_evB rfl]
 unfold s147
 simp -implicitDefEqProofs [cw144,w1,c0,c1,c2]
 refine evB_for (fun i=>[I top,I bot,I n,I ((top+i:Nat):Int), .obx [I g.h,I g.w, .sl 5 (celsD g.cells)], .obx [I p.f,I p.b,I p.g], .obx [I 0,I 0, .sn], .obx [I g.h,I g.w, .osl true 5 (celsD (shTo g top bot n p i).cells)]]) N (.exit 0)
  [I top,I bot,I n,I ((top+N:Nat):Int), .obx [I g.h,I g.w, .sl 5 (celsD g.cells)], .obx [I p.f,I p.b,I p.g], .obx [I 0,I 0, .sn], .obx [I g.h,I g.w, .osl true 5 (celsD (shTo g top bot n p N).cells)]] ?_ (fun i hi=>?_) ?_ (by simp) (by rw [hNe];exact hN) ?_
 ·simp -implicitDefEqProofs [h0]
 ·obtain ⟨oi,i1,i2,i3⟩:=shTo_ok (top:=top) o hb n p i (by omega)
  obtain ⟨oj,j1,j2,j3⟩:=shTo_ok (top:=top) o hb n p (i+1) (by omega)
  have ei:shTo g top bot n p (i+1)=setRow (shTo g top bot n p i) (top+i) (shRow g top bot n p (top+i)):=rfl
  have et:top+(i+1)=top+i+1:=rfl
  have hri:top+i<(shTo g top bot n p i).h:=by rw [i1];omega
  obtain ⟨r,hr⟩:∃ r,r=top+i:=⟨_,rfl⟩
  rw [et]
  simp only [←hr] at ei hri ⊢
  have hrg:r<g.h:=by omega
  have ri:=row_in o hrg
  obtain ⟨q1,q2,q3,q5,q6⟩:=row_nums o hrg
  have hsl:=shRow_len o (top:=top) hb n p r
  have hc:(shTo g top bot n p (i+1)).cells=(shTo g top bot n p i).cells.take (rowOff g r)++((shRow g top bot n p r)++(shTo g top bot n p i).cells.drop (rowOff g r+g.w)):=by
   rw [ei]
   unfold setRow
   simp only
   rw [rowOff_w i2,i2,List.append_assoc]
  have w143:=fun q=>sp143 q g.w (by have:=o.2.2.1;omega) (by have:=o.2.2.2.1;omega) p
  have e1:wr ((r:Int)+1)=((r+1:Nat):Int):=by rw [wr_id _ (by omega) (by omega)];simp
  have hle:(r:Int)≤bot:=by omega
  have hrl:rowOff g r≤g.cells.length:=by omega
  have hmn:min g.w (g.cells.length-rowOff g r)=g.w:=by omega
  have a1:wr ((r:Int)+n)=(r:Int)+n:=wr_id _ (by omega) (by omega)
  have hne:¬g.w=0:=by have:=o.2.2.1;omega
  by_cases hk:(top:Int)≤r+n∧r+n≤bot
  ·obtain ⟨kk,hkk⟩:∃ kk:Nat,(r:Int)+n=kk:=⟨((r:Int)+n).toNat,by omega⟩
   have hkg:kk<g.h:=by omega
   obtain ⟨p1,p2,p3,p5,p6⟩:=row_nums o hkg
   have rk:=row_in o hkg
   have hS:shRow g top bot n p r=rowL g kk:=by unfold shRow;rw [if_pos hk,hkk,Int.toNat_natCast]
   have e7:(g.cells.drop (rowOff g kk)).take g.w=rowL g kk:=rfl
   rw [hS] at hc hsl
   have k1:(top:Int)≤kk:=by omega
   have k2:(kk:Int)≤bot:=by omega
   have tk:(rowL g kk).take g.w=rowL g kk:=List.take_of_length_le (by omega)
   generalize shTo g top bot n p (i+1)=G' at *
   generalize shTo g top bot n p i=G at *
   clear hr
   simp -implicitDefEqProofs [hle,hne,cw143,w143,a1,hkk,wr_id ((kk:Int)) (by omega) (by omega),k1,k2,p1,p2,p3,p5,p6,rk,q1,hrl,i3,e7,hsl,hmn,←hc,j3,e1,tk]
  ·have hS:shRow g top bot n p r=List.replicate g.w (blankC p):=by unfold shRow;rw [if_neg hk]
   rw [hS] at hc hsl
   have tk:(List.replicate g.w (blankC p)).take g.w=List.replicate g.w (blankC p):=List.take_of_length_le (by simp)
   generalize shTo g top bot n p (i+1)=G' at *
   generalize shTo g top bot n p i=G at *
   generalize List.replicate g.w (blankC p)=BL at *
   clear hr
   by_cases k1:(top:Int)≤r+n
   ·have k2:¬(r:Int)+n≤bot:=by omega
    simp -implicitDefEqProofs [hle,hne,cw143,w143,a1,k1,k2,q1,hrl,i3,hsl,hmn,←hc,j3,e1,tk]
   ·simp -implicitDefEqProofs [hle,hne,cw143,w143,a1,k1,q1,hrl,i3,hsl,hmn,←hc,j3,e1,tk]
 ·obtain ⟨oi,i1,i2,i3⟩:=shTo_ok (top:=top) o hb n p N (by omega)
  have hge:¬((top:Int)+(N:Int)≤(bot:Int)):=by omega
  simp -implicitDefEqProofs [hge,i3]
 ·obtain ⟨oi,i1,i2,i3⟩:=shTo_ok (top:=top) o hb n p N (by omega)
  have tk:(shTo g top bot n p N).cells.take g.cells.length=(shTo g top bot n p N).cells:=List.take_of_length_le (by omega)
  simp -implicitDefEqProofs [i1,i2,i3,tk]
def farI (n:Int):Int:=mxI 0 (mnI n 40)
theorem farI_b (n:Int):0≤farI n∧farI n≤40:=by
 unfold farI mxI mnI
 repeat' split
 all_goals omega
theorem sp142 (k:Nat) (g:Gd) (o:OkG g) (hl:g.cells.length≤100000) (top bot:Nat) (ht:top≤bot) (hb:bot<g.h) (n:Int) (p:Pn):evFun (clOf (modsR tab (k+5)) 3) s142 [gdD g,I top,I bot,I n,pnD p]=some (gdD (shG g top bot (farI n) p),[]):=by
 have b:=farI_b n
 have w:=fun q=>sp147 q g o hl top bot ht hb (farI n) (by omega) p
 have w2:∀ q,evFun (clOf (modsR tab q) 3) s145 [I n]=some (I (farI n),[]):=fun q=>sp145 q n
 generalize shG g top bot (farI n) p=G at *
 rw [evFun_evB rfl]
 unfold s142
 simp -implicitDefEqProofs [cr145,w2,cw147,w]
theorem sp138 (k:Nat) (g:Gd) (o:OkG g) (hl:g.cells.length≤100000) (top bot:Nat) (ht:top≤bot) (hb:bot<g.h) (n:Int) (p:Pn):evFun (clOf (modsR tab (k+5)) 3) s138 [gdD g,I top,I bot,I n,pnD p]=some (gdD (shG g top bot (-farI n) p),[]):=by
 have b:=farI_b n
 have w:=fun q=>sp147 q g o hl top bot ht hb (-farI n) (by omega) p
 have w2:∀ q,evFun (clOf (modsR tab q) 3) s145 [I n]=some (I (farI n),[]):=fun q=>sp145 q n
 have e:IntKind.i64.wrap (-farI n) = -farI n:=wrap_id _ (by omega) (by omega)
 generalize shG g top bot (-farI n) p=G at *
 rw [evFun_evB rfl]
 unfold s138
 simp -implicitDefEqProofs [cr145,w2,cw147,w,e]
def lineG (g:Gd) (r c:Nat) (what:Int) (p:Pn):Gd:=if what=0 then wipeG g r c g.w p else if what=1 then wipeG g r 0 ((c:Int)+1) p else if what=2 then wipeG g r 0 g.w p else g
theorem wipeG_ok {g:Gd} (o:OkG g) {r:Nat} (hr:r<g.h) (a b:Int) (p:Pn):OkG (wipeG g r a b p)∧(wipeG g r a b p).h=g.h∧(wipeG g r a b p).w=g.w∧(wipeG g r a b p).cells.length=g.cells.length:=by
 have o':=o.setRow hr (mendL (wipeRow (rowL g r) (mxI a 0).toNat (max (mxI a 0) (mnI b g.w)).toNat p)) (by simp [rowL_len o hr])
 refine ⟨o',rfl,rfl,?_⟩
 have h:=o'.2.2.2.2
 rw [o.2.2.2.2]
 exact h
theorem lineG_ok {g:Gd} (o:OkG g) {r:Nat} (hr:r<g.h) (c:Nat) (what:Int) (p:Pn):OkG (lineG g r c what p)∧(lineG g r c what p).h=g.h∧(lineG g r c what p).w=g.w∧(lineG g r c what p).cells.length=g.cells.length:=by
 unfold lineG
 repeat' split
 ·exact wipeG_ok o hr _ _ _
 ·exact wipeG_ok o hr _ _ _
 ·exact wipeG_ok o hr _ _ _
 ·exact ⟨o,rfl,rfl,rfl⟩
theorem sp141 (k:Nat) (g:Gd) (o:OkG g) (hl:g.cells.length≤100000) (r c:Nat) (hr:r<g.h) (hc:c<g.w) (what:Int) (p:Pn):evFun (clOf (modsR tab (k+3)) 3) s141 [gdD g,I r,I c,I what,pnD p]=some (gdD (lineG g r c what p),[]):=by
 have hw:=rowL_len o hr
 have hw2:=o.2.2.2.1
 obtain ⟨x,hx⟩:=get_ex (l:=rowL g r) (i:=c) (by omega)
 have w149:=fun q=>sp149 q g o r c hr hc x hx
 have w144:=fun q=>sp144 q g o hl
 have w1:=fun q=>sp157 q g o hl r hr c g.w p (by omega) (by omega)
 have w2:=fun q=>sp157 q g o hl r hr 0 ((c:Int)+1) p (by omega) (by omega)
 have w3:=fun q=>sp157 q g o hl r hr 0 g.w p (by omega) (by omega)
 have e:lineG g r c what p=if what=0 then wipeG g r c g.w p else if what=1 then wipeG g r 0 ((c:Int)+1) p else if what=2 then wipeG g r 0 g.w p else g:=rfl
 rw [e]
 generalize wipeG g r c g.w p=G1 at *
 generalize wipeG g r 0 ((c:Int)+1) p=G2 at *
 generalize wipeG g r 0 g.w p=G3 at *
 have tk:g.cells.take g.cells.length=g.cells:=List.take_of_length_le (by omega)
 rw [evFun_evB rfl]
 unfold s141
 by_cases h0:what=0
 ·simp -implicitDefEqProofs [cw149,w149,h0,cw157,w1]
 by_cases h1:what=1
 ·simp -implicitDefEqProofs [cw149,w149,h0,h1,cw157,w2,wr_id ((c:Int)+1) (by omega) (by omega)]
 by_cases h2:what=2
 ·simp -implicitDefEqProofs [cw149,w149,h0,h1,h2,cw157,w3]
 simp -implicitDefEqProofs [cw149,w149,h0,h1,h2,cw144,w144,tk]
def erIn (what:Int) (r i:Nat):Bool:=(decide (r<i) && !decide (what=1)) || (decide (i<r) && !decide (what=0))
def erTo (g:Gd) (r c:Nat) (what:Int) (p:Pn):Nat→Gd
 | 0=>lineG g r c what p
 | i+1=>if erIn what r i then wipeG (erTo g r c what p i) i 0 g.w p else erTo g r c what p i
def eraseG (g:Gd) (r c:Nat) (what:Int) (p:Pn):Gd:=if what<0∨2<what then g else erTo g r c what p g.h
theorem erTo_ok {g:Gd} (o:OkG g) {r:Nat} (hr:r<g.h) (c:Nat) (what:Int) (p:Pn):∀ i,i≤g.h→OkG (erTo g r c what p i)∧(erTo g r c what p i).h=g.h∧(erTo g r c what p i).w=g.w∧(erTo g r c what p i).cells.length=g.cells.length
 | 0,_=>lineG_ok o hr c what p
 | i+1,hi=>by
  obtain ⟨o1,e1,e2,e3⟩:=erTo_ok o hr c what p i (by omega)
  unfold erTo
  split
  ·obtain ⟨o2,f1,f2,f3⟩:=wipeG_ok o1 (r:=i) (by omega) 0 g.w p
   exact ⟨o2,f1.trans e1,f2.trans e2,f3.trans e3⟩
  ·exact ⟨o1,e1,e2,e3⟩
set_option maxHeartbeats 4000000 in
theorem sp139 (k:Nat) (g:Gd) (o:OkG g) (hl:g.cells.length≤100000) (r c:Nat) (hr:r<g.h) (hc:c<g.w) (what:Int) (p:Pn):evFun (clOf (modsR tab (k+4)) 3) s139 [gdD g,I r,I c,I what,pnD p]=some (gdD (eraseG g r c what p),[]):=by
 have hw:=rowL_len o hr
 have hw2:=o.2.2.2.1
 obtain ⟨x,hx⟩:=get_ex (l:=rowL g r) (i:=c) (by omega)
 have w149:=fun q=>sp149 q g o r c hr hc x hx
 have w144:=fun q=>sp144 q g o hl
 have tk:g.cells.take g.cells.length=g.cells:=List.take_of_length_le (by omega)
 by_cases hb:what<0∨2<what
 ·have e:eraseG g r c what p=g:=by unfold eraseG;rw [if_pos hb]
  rw [e,evFun_evB rfl]
  unfold s139
  by_cases h1:what<0
  ·simp -implicitDefEqProofs [cw149,w149,h1,cw144,w144,tk]
  ·have h2:2<what:=by omega
   simp -implicitDefEqProofs [cw149,w149,h1,h2,cw144,w144,tk]
 ·have e:eraseG g r c what p=erTo g r c what p g.h:=by unfold eraseG;rw [if_neg hb]
  have h1:¬what<0:=by omega
  have h2:¬2<what:=by omega
  have w141:=fun q=>sp141 q g o hl r c hr hc what p
  have h0:lineG g r c what p=erTo g r c what p 0:=rfl
  rw [h0] at w141
  rw [e]
  obtain ⟨oz,z1,z2,z3⟩:=erTo_ok o hr c what p 0 (by omega)
  have hh:=o.2.1
  rw [evFun_evB rfl]
  unfold s139
  simp -implicitDefEqProofs [cw149,w149,h1,h2,cw141,w141,z1,z2]
  refine evB_for (fun i=>[I r,I what,I g.h,I i, .obx [I g.h,I g.w, .sl 5 (celsD g.cells)], .obx [I p.f,I p.b,I p.g], .obx [I 0,I 0, .sn], .obx [I g.h,I g.w, .sl 5 (celsD (erTo g r c what p i).cells)]]) g.h (.exit 0)
   [I r,I what,I g.h,I g.h, .obx [I g.h,I g.w, .sl 5 (celsD g.cells)], .obx [I p.f,I p.b,I p.g], .obx [I 0,I 0, .sn], .obx [I g.h,I g.w, .sl 5 (celsD (erTo g r c what p g.h).cells)]] ?_ (fun i hi=>?_) ?_ (by simp) (by simp [rounds];omega) ?_
  ·simp -implicitDefEqProofs []
  ·obtain ⟨oi,i1,i2,i3⟩:=erTo_ok o hr c what p i (by omega)
   have w157:=fun q=>sp157 q (erTo g r c what p i) oi (by omega) i (by omega) 0 g.w p (by omega) (by omega)
   have hlt:(i:Int)<g.h:=by omega
   have ee:erTo g r c what p (i+1)=if erIn what r i then wipeG (erTo g r c what p i) i 0 g.w p else erTo g r c what p i:=rfl
   have hin:erIn what r i=((decide (r<i) && !decide (what=1)) || (decide (i<r) && !decide (what=0))):=rfl
   obtain ⟨_,f1,f2,f3⟩:=wipeG_ok oi (r:=i) (by omega) 0 g.w p
   generalize erTo g r c what p (i+1)=G' at *
   generalize wipeG (erTo g r c what p i) i 0 g.w p=W at *
   generalize erTo g r c what p i=G at *
   simp only [gdD,f1,f2,i1,i2] at w157
   by_cases c1:r<i
   ·have c1':(r:Int)<i:=by omega
    have c2:¬(i:Int)<r:=by omega
    have c2':¬i<r:=by omega
    by_cases c3:what=1
    ·have:erIn what r i=false:=by rw [hin];simp [c1,c2',c3]
     rw [this] at ee
     simp only [Bool.false_eq_true,if_false] at ee
     simp -implicitDefEqProofs [hlt,c1',c2,c3,ee,wr_id ((i:Int)+1) (by omega) (by omega)]
    ·have:erIn what r i=true:=by rw [hin];simp [c1,c2',c3]
     rw [this] at ee
     simp only [if_true] at ee
     simp -implicitDefEqProofs [hlt,c1',c2,c3,ee,cw157,w157,wr_id ((i:Int)+1) (by omega) (by omega)]
   ·have c1':¬(r:Int)<i:=by omega
    by_cases c2:i<r
    ·have c2':(i:Int)<r:=by omega
     by_cases c3:what=0
     ·have:erIn what r i=false:=by rw [hin];simp [c1,c2,c3]
      rw [this] at ee
      simp only [Bool.false_eq_true,if_false] at ee
      simp -implicitDefEqProofs [hlt,c1',c2',c3,ee,wr_id ((i:Int)+1) (by omega) (by omega)]
     ·have:erIn what r i=true:=by rw [hin];simp [c1,c2,c3]
      rw [this] at ee
      simp only [if_true] at ee
      simp -implicitDefEqProofs [hlt,c1',c2',c3,ee,cw157,w157,wr_id ((i:Int)+1) (by omega) (by omega)]
    ·have c2':¬(i:Int)<r:=by omega
     have:erIn what r i=false:=by rw [hin];simp [c1,c2]
     rw [this] at ee
     simp only [Bool.false_eq_true,if_false] at ee
     simp -implicitDefEqProofs [hlt,c1',c2',ee,wr_id ((i:Int)+1) (by omega) (by omega)]
  ·simp -implicitDefEqProofs []
  ·obtain ⟨oi,i1,i2,i3⟩:=erTo_ok o hr c what p g.h (by omega)
   simp -implicitDefEqProofs [i1,i2]
end Go.Proofs.YtlpchliomdomdaaGreat.LgTab
namespace Go.Proofs.YtlpchliomdomdaaGreat.LgTab
open Go Lg
set_option linter.unusedVariables false
set_option linter.unusedSimpArgs false
set_option maxRecDepth 8000
theorem u64_of (n:Nat):((n:Int) % ((2 ^ 64:Nat):Int)).toNat=n % 2 ^ 64:=by omega
theorem t_or (a b:Nat) (ha:a<2 ^ 64) (hb:b<2 ^ 64):binD .or (T64 a) (T64 b)=some (T64 ((a ||| b:Nat):Int)):=by
 show some (T64 (IntKind.u64.wrap ((BitVec.ofInt 64 a ||| BitVec.ofInt 64 b).toNat:Int)))=_
 rw [BitVec.toNat_or,BitVec.toNat_ofInt,BitVec.toNat_ofInt,u64_of,u64_of,Nat.mod_eq_of_lt ha,Nat.mod_eq_of_lt hb,wrap_u64 _ (by omega) (by have:=Nat.or_lt_two_pow ha hb;omega)]
theorem t_and (a b:Nat) (ha:a<2 ^ 64) (hb:b<2 ^ 64):binD .and (T64 a) (T64 b)=some (T64 ((a &&& b:Nat):Int)):=by
 show some (T64 (IntKind.u64.wrap ((BitVec.ofInt 64 a &&& BitVec.ofInt 64 b).toNat:Int)))=_
 rw [BitVec.toNat_and,BitVec.toNat_ofInt,BitVec.toNat_ofInt,u64_of,u64_of,Nat.mod_eq_of_lt ha,Nat.mod_eq_of_lt hb,wrap_u64 _ (by omega) (by have:=Nat.and_lt_two_pow a hb;omega)]
def dropN (a b:Nat):Nat:=a &&& (2 ^ 64-1-b)
theorem dropN_lt {a b:Nat} (ha:a<2 ^ 64):dropN a b<2 ^ 64:=Nat.and_lt_two_pow a (by omega)
theorem t_andn (a b:Nat) (ha:a<2 ^ 64) (hb:b<2 ^ 64):binD .andNot (T64 a) (T64 b)=some (T64 ((dropN a b:Nat):Int)):=by
 show some (T64 (IntKind.u64.wrap ((BitVec.ofInt 64 a &&& ~~~ BitVec.ofInt 64 b).toNat:Int)))=_
 rw [BitVec.toNat_and,BitVec.toNat_not,BitVec.toNat_ofInt,BitVec.toNat_ofInt,u64_of,u64_of,Nat.mod_eq_of_lt ha,Nat.mod_eq_of_lt hb,wrap_u64 _ (by omega) (by have:=dropN_lt (b:=b) ha;unfold dropN at this;omega)]
 rfl
def bitN (c:Int):Nat:=if 0≤c∧c<64 then 2 ^ c.toNat else 0
theorem bitN_lt (c:Int):bitN c<2 ^ 64:=by
 unfold bitN
 split
 ·exact Nat.pow_lt_pow_right (by omega) (by omega)
 ·omega
theorem t_shl (c:Int) (h0:0≤c) (h1:c<64):binD .shl (T64 1) (I c)=some (T64 (bitN c)):=by
 have e:shI .shl .u64 1 c=some (.int .u64 (bitN c)):=by
  unfold shI
  simp only
  rw [if_neg (by omega)]
  show some (Value.int .u64 (IntKind.u64.wrap (1*2 ^ (min c.toNat 64))))=_
  have:(1:Int)*2 ^ (min c.toNat 64)=(bitN c:Nat):=by
   rw [show min c.toNat 64=c.toNat by omega]
   unfold bitN
   rw [if_pos ⟨h0,h1⟩]
   simp
  rw [this,wrap_u64 _ (by omega) (by have:=bitN_lt c;omega)]
 simp [binD,e]
theorem sp422 (k:Nat) (c:Int):evFun (clOf (modsR tab k) 3) s422 [I c]=some (T64 (bitN c),[]):=by
 rw [evFun_evB rfl]
 unfold s422
 by_cases h0:c<0
 ·have e:bitN c=0:=by unfold bitN;rw [if_neg (by omega)]
  rw [e]
  simp -implicitDefEqProofs [h0]
 by_cases h1:(64:Int)≤c
 ·have e:bitN c=0:=by unfold bitN;rw [if_neg (by omega)]
  rw [e]
  simp -implicitDefEqProofs [h0,h1]
 have w:=t_shl c (by omega) (by omega)
 generalize bitN c=b at *
 simp -implicitDefEqProofs [h0,h1,w]
def hasT (t:Nat) (c:Int):Bool:=decide (t &&& bitN c≠0)
theorem sp417 (k:Nat) (t:Nat) (ht:t<2 ^ 64) (c:Int):evFun (clOf (modsR tab (k+1)) 3) s417 [T64 t,I c]=some (B (hasT t c),[]):=by
 have w:=fun q=>sp422 q c
 have w2:=t_and t (bitN c) ht (bitN_lt c)
 have e:hasT t c=decide (t &&& bitN c≠0):=rfl
 rw [e]
 generalize bitN c=b at *
 rw [evFun_evB rfl]
 unfold s417
 generalize t &&& b=x at *
 simp -implicitDefEqProofs [cw422,w,w2]
def tabTo (t:Nat) (n:Nat):List Int:=((List.range n).filter fun i:Nat=>hasT t (i:Int)).map fun i:Nat=>(i:Int)
theorem tabTo_succ (t n:Nat):tabTo t (n+1)=if hasT t n then tabTo t n++[(n:Int)] else tabTo t n:=by
 unfold tabTo
 rw [List.range_succ,List.filter_append,List.map_append]
 by_cases h:hasT t n=true<;>simp [h,List.filter]
theorem tabTo_len (t:Nat):∀ n,(tabTo t n).length≤n
 | 0=>by simp [tabTo]
 | n+1=>by
  have:=tabTo_len t n
  rw [tabTo_succ]
  split
  ·simp;omega
  ·omega
def tabL (t:Nat):List Int:=tabTo t 64
set_option maxHeartbeats 1000000 in
theorem sp418 (k:Nat) (t:Nat) (ht:t<2 ^ 64):evFun (clOf (modsR tab (k+2)) 3) s418 [T64 t]=some (D.osl true 1 (intsD (tabL t)),[]):=by
 rw [evFun_evB rfl]
 unfold s418
 simp -implicitDefEqProofs []
 refine evB_for (fun i=>[T64 t,I i, .osl true 1 (intsD (tabTo t i))]) 64 (.exit 0) [T64 t,I 64, .osl true 1 (intsD (tabTo t 64))] ?_ (fun i hi=>?_) ?_ (by simp) (by simp [rounds]) ?_
 ·simp -implicitDefEqProofs [tabTo]
 ·have w:=fun q=>sp417 q t ht i
  have hlt:(i:Int)<64:=by omega
  have hl:=tabTo_len t i
  have hl2:((tabTo t i).length+1)*8≤140737488355328:=by omega
  have hs:=tabTo_succ t i
  generalize tabTo t (i+1)=L' at *
  generalize tabTo t i=L at *
  generalize hasT t i=b at *
  cases b
  ·simp only [Bool.false_eq_true,if_false] at hs
   subst hs
   simp -implicitDefEqProofs [hlt,cw417,w,wr_id ((i:Int)+1) (by omega) (by omega)]
  ·simp only [if_true] at hs
   subst hs
   simp -implicitDefEqProofs [hlt,cw417,w,wr_id ((i:Int)+1) (by omega) (by omega),hl2]
 ·generalize tabTo t 64=L
  simp -implicitDefEqProofs []
 ·show _=some (D.osl true 1 (intsD (tabTo t 64)),[])
  have hl:=tabTo_len t 64
  generalize tabTo t 64=L at *
  simp -implicitDefEqProofs []
def nextT (t:Nat) (col cols:Int):Int:=((tabL t).find? fun c=>decide (col<c) && decide (c<cols)).getD (cols-1)
theorem sp420 (k:Nat) (t:Nat) (ht:t<2 ^ 64) (col cols:Int) (hc:0≤cols∧cols≤1000):evFun (clOf (modsR tab (k+3)) 3) s420 [T64 t,I col,I cols]=some (I (nextT t col cols),[]):=by
 have w:=fun q=>sp418 q t ht
 have e:nextT t col cols=((tabL t).find? fun c=>decide (col<c) && decide (c<cols)).getD (cols-1):=rfl
 have hl:(tabL t).length≤64:=tabTo_len t 64
 rw [e]
 clear e
 generalize tabL t=L at *
 rw [evFun_evB rfl]
 unfold s420
 simp -implicitDefEqProofs [cw418,w]
 refine evB_inv (P:=fun o=>o=some (I ((L.find? fun c=>decide (col<c) && decide (c<cols)).getD (cols-1)),[])) (σ:=Nat) (fun i=>[I col,I cols,I 0, .sl 1 (intsD L),I L.length,I i]) (fun i=>L.length-i) (fun i=>i≤L.length∧(L.take i).find? (fun c=>decide (col<c) && decide (c<cols))=none)
  (fun ex t=>(ex = .exit 0∧L.find? (fun c=>decide (col<c) && decide (c<cols))=none∧∃ i:Int,t=[I col,I cols,I 0, .sl 1 (intsD L),I L.length,I i])∨(ex = .ret∧∃ i c:Int,L.find? (fun c=>decide (col<c) && decide (c<cols))=some c∧t=[I col,I cols,I c, .sl 1 (intsD L),I L.length,I i])) 0 ?_ ⟨by omega,by simp⟩ (by simp [rounds];omega) ?_ ?_
 ·simp -implicitDefEqProofs []
 ·rintro i ⟨hi,hj⟩
  by_cases h9:i=L.length
  ·right
   subst h9
   rw [List.take_length] at hj
   refine ⟨_,_,?_,by simp, .inl ⟨rfl,hj,(L.length:Int),rfl⟩⟩
   simp -implicitDefEqProofs []
  ·obtain ⟨c,hg⟩:=get_ex (l:=L) (i:=i) (by omega)
   have hlt:(i:Int)<L.length:=by omega
   have hlt':i<L.length:=by omega
   have hg1:=intsD_at hg
   have hg2:=get_of hg
   have hsn:=take_snoc hg
   have hsp:L=L.take i++c :: L.drop (i+1):=by rw [←hg2 hlt'];simp
   by_cases h:col<c
   ·by_cases h2:c<cols
    ·right
     refine ⟨.ret,[I col,I cols,I c, .sl 1 (intsD L),I L.length,I i],?_,by simp, .inr ⟨rfl,_,_,?_,rfl⟩⟩
     ·clear hsp
      simp -implicitDefEqProofs [hlt,hlt',hg1,h,h2]
     ·rw [hsp,List.find?_append,hj]
      simp [h,h2]
    ·left
     refine ⟨i+1,?_,by omega,by omega,?_⟩
     ·clear hsp
      simp -implicitDefEqProofs [hlt,hlt',hg1,h,h2,wr_id ((i:Int)+1) (by omega) (by omega)]
     ·rw [hsn,List.find?_append,hj]
      simp [h,h2]
   ·left
    refine ⟨i+1,?_,by omega,by omega,?_⟩
    ·clear hsp
     simp -implicitDefEqProofs [hlt,hlt',hg1,h,wr_id ((i:Int)+1) (by omega) (by omega)]
    ·rw [hsn,List.find?_append,hj]
     simp [h]
 ·rintro ex t (⟨rfl,h,i,rfl⟩ | ⟨rfl,i,c,h,rfl⟩)
  ·rw [h]
   simp -implicitDefEqProofs [wr_id (cols-1) (by omega) (by omega)]
  ·rw [h]
   simp -implicitDefEqProofs []
theorem sp421 (k:Nat) (t:Nat) (ht:t<2 ^ 64) (c:Int):evFun (clOf (modsR tab (k+1)) 3) s421 [T64 t, .sl 1 [I c]]=some (T64 ((t ||| bitN c:Nat):Int),[]):=by
 have w:=fun q=>sp422 q c
 have w2:=t_or t (bitN c) ht (bitN_lt c)
 generalize bitN c=b at *
 generalize t ||| b=x at *
 rw [evFun_evB rfl]
 unfold s421
 simp -implicitDefEqProofs []
 refine evB_for (fun i=>[T64 ((if i=0 then t else x:Nat):Int), .sl 1 [I c],I 1,I i]) 1 (.exit 0) [T64 x, .sl 1 [I c],I 1,I 1] ?_ (fun i hi=>?_) ?_ (by simp) (by simp [rounds]) ?_
 ·simp -implicitDefEqProofs []
 ·obtain rfl:i=0:=by omega
  simp -implicitDefEqProofs [cw422,w,w2,wr_id (1) (by omega) (by omega)]
 ·simp -implicitDefEqProofs []
 ·simp -implicitDefEqProofs []
theorem sp416 (k:Nat) (t:Nat) (ht:t<2 ^ 64) (c:Int):evFun (clOf (modsR tab (k+1)) 3) s416 [T64 t, .sl 1 [I c]]=some (T64 ((dropN t (bitN c):Nat):Int),[]):=by
 have w:=fun q=>sp422 q c
 have w2:=t_andn t (bitN c) ht (bitN_lt c)
 generalize bitN c=b at *
 generalize dropN t b=x at *
 rw [evFun_evB rfl]
 unfold s416
 simp -implicitDefEqProofs []
 refine evB_for (fun i=>[T64 ((if i=0 then t else x:Nat):Int), .sl 1 [I c],I 1,I i]) 1 (.exit 0) [T64 x, .sl 1 [I c],I 1,I 1] ?_ (fun i hi=>?_) ?_ (by simp) (by simp [rounds]) ?_
 ·simp -implicitDefEqProofs []
 ·obtain rfl:i=0:=by omega
  simp -implicitDefEqProofs [cw422,w,w2,wr_id (1) (by omega) (by omega)]
 ·simp -implicitDefEqProofs []
 ·simp -implicitDefEqProofs []
def newTo:Nat→Nat
 | 0=>0
 | n+1=>newTo n ||| bitN (8+8*(n:Int))
theorem newTo_lt:∀ n,newTo n<2 ^ 64
 | 0=>by simp [newTo]
 | n+1=>Nat.or_lt_two_pow (newTo_lt n) (bitN_lt _)
def newT (cols:Nat):Nat:=newTo ((min cols 64-1) / 8)
theorem sp419 (k:Nat) (cols:Nat) (hc:1≤cols∧cols≤1000):evFun (clOf (modsR tab (k+1)) 3) s419 [I cols]=some (T64 (newT cols),[]):=by
 obtain ⟨N,hN⟩:∃ N,N=(min cols 64-1) / 8:=⟨_,rfl⟩
 have e:newT cols=newTo N:=by rw [hN];rfl
 rw [e,evFun_evB rfl]
 unfold s419
 simp -implicitDefEqProofs []
 have hm:mnI (cols:Int) 64=((min cols 64:Nat):Int):=by unfold mnI;split<;>omega
 refine evB_for (fun i=>[I cols,T64 (newTo i),I (8+8*(i:Int))]) N (.exit 0) [I cols,T64 (newTo N),I (8+8*(N:Int))] ?_ (fun i hi=>?_) ?_ (by simp) (by simp [rounds];omega) ?_
 ·simp -implicitDefEqProofs [newTo]
 ·have w:=fun q=>sp422 q (8+8*(i:Int))
  have w2:=t_or (newTo i) (bitN (8+8*(i:Int))) (newTo_lt i) (bitN_lt _)
  have w3:newTo (i+1)=newTo i ||| bitN (8+8*(i:Int)):=rfl
  rw [←w3] at w2
  have hlt:8+8*(i:Int)<min cols 64:=by omega
  have hlt2:8+8*(i:Int)<mnI (cols:Int) 64:=by omega
  have e1:wr (8+8*(i:Int)+8)=8+8*((i:Int)+1):=by rw [wr_id _ (by omega) (by omega)];omega
  generalize newTo (i+1)=x at *
  simp -implicitDefEqProofs [hlt2,cw422,w,w2,e1]
 ·have hlt2:¬8+8*(N:Int)<mnI (cols:Int) 64:=by omega
  generalize newTo N=x at *
  simp -implicitDefEqProofs [hlt2]
 ·generalize newTo N=x at *
  simp -implicitDefEqProofs []
end Go.Proofs.YtlpchliomdomdaaGreat.LgTab
