import Derived.Test.YtlpchliomdomdaaGreatPt21
import Derived.Test.YtlpchliomdomdaaGreatPt18
import Derived.Test.YtlpchliomdomdaaGreatPt17
namespace Go.Proofs.YtlpchliomdomdaaGreat.LgTab
open Go Lg
set_option linter.unusedVariables false
set_option linter.unusedSimpArgs false
set_option maxRecDepth 8000
set_option maxHeartbeats 2000000 in
theorem sp173 (k:Nat) (l:List Cel) (hl:l.length≤100000):evFun (clOf (modsR tab k) 3) s173 [.sl 5 (celsD l), .sl 5 (celsD l)]=some (B true,[]):=by
 rw [evFun_evB rfl]
 unfold s173
 simp -implicitDefEqProofs []
 refine evB_for (fun i=>[.sl 5 (celsD l), .sl 5 (celsD l),B false,I i]) l.length (.exit 0) [.sl 5 (celsD l), .sl 5 (celsD l),B false,I l.length] ?_ (fun i hi=>?_) ?_ (by simp) (by simp [rounds];omega) ?_
 ·simp -implicitDefEqProofs []
 ·obtain ⟨x,hx⟩:=get_ex hi
  have g:=celsD_getD hx
  have g':=celsD_at hx
  have hlt:(i:Int)<l.length:=by omega
  simp -implicitDefEqProofs [hlt,hi,g,g',wr_id ((i:Int)+1) (by omega) (by omega)]
 ·simp -implicitDefEqProofs []
 ·simp -implicitDefEqProofs []
theorem sp177 (k:Nat) (s:Sc) (hl:s.g.cells.length≤100000):evFun (clOf (modsR tab (k+1)) 3) s177 [scD s,scD s]=some (B true,[]):=by
 have w:=fun q=>sp173 q s.g.cells hl
 rw [evFun_evB rfl]
 unfold s177
 simp -implicitDefEqProofs [cw173,w]
end Go.Proofs.YtlpchliomdomdaaGreat.LgTab
namespace Go.Proofs.YtlpchliomdomdaaGreat.LgTab
open Go Lg
set_option linter.unusedVariables false
set_option linter.unusedSimpArgs false
set_option maxRecDepth 8000
theorem sp378 (k:Nat) (c:Int) (h:setOk c):evFun (clOf (modsR tab k) 3) s378 [U c]=some (B true,[]):=by
 rw [evFun_evB rfl]
 unfold s378
 rcases h with rfl | rfl
 ·simp -implicitDefEqProofs []
 ·simp -implicitDefEqProofs []
abbrev svD (v:Sv):D:= .agg [I v.r,I v.c,I v.p.f,I v.p.b,I v.p.g,U v.u0,U v.u1,I v.sh,B v.o]
set_option maxHeartbeats 4000000 in
theorem sp377 (k:Nat) (g:Gd) (v:Sv) (h1:0≤v.r∧v.r<g.h) (h2:0≤v.c∧v.c<g.w) (h3:PR v.p) (h4:setOk v.u0) (h5:setOk v.u1) (h6:v.sh=0∨v.sh=1):evFun (clOf (modsR tab (k+2)) 3) s377 [gdD g,svD v]=some (B true,[]):=by
 have w1:=fun q=>sp108 q v.p h3
 have w2:=fun q=>sp378 q v.u0 h4
 have w3:=fun q=>sp378 q v.u1 h5
 rw [evFun_evB rfl]
 unfold s377
 rcases h6 with h | h
 ·simp -implicitDefEqProofs [h1.1,h1.2,h2.1,h2.2,cw108,w1,cw378,w2,w3,eq_true h]
 ·have h0:¬v.sh=0:=by omega
  simp -implicitDefEqProofs [h1.1,h1.2,h2.1,h2.2,cw108,w1,cw378,w2,w3,eq_true h,h0]
set_option maxHeartbeats 4000000 in
theorem sp373 (k:Nat) (s:Sc) (o:OkS s) (r:RightS s):evFun (clOf (modsR tab (k+5)) 3) s373 [scD s]=some (B true,[]):=by
 have w1:=fun q=>sp154 q s.g o.g r.g.2 o.h o.w
 have w2:=fun q=>sp377 q s.g s.sv o.srow o.scol r.sp r.u0 r.u1 o.ssh
 have w3:=fun q=>sp377 q s.g ⟨s.row,s.col,s.p,s.s0,s.s1,s.sh,false⟩ o.row o.col r.p r.s0 r.s1 o.sh
 have ht:=o.top
 have hb:=o.bot
 have hh:=o.h
 have hw:=o.w
 have hg:=o.g.1
 have hg2:=o.g.2.2.1
 have hm:=r.mar
 have hp:=r.pend
 rw [evFun_evB rfl]
 unfold s373
 by_cases c1:s.top<s.bot
 ·cases c2:s.pend with
  | false =>
   simp only [scD,scL,c2]
   simp -implicitDefEqProofs [cw154,w1,cw377,w2,w3,ht.1,hb,c1]
  | true =>
   obtain ⟨p1,p2⟩:=hp c2
   simp only [scD,scL,c2,p1]
   simp -implicitDefEqProofs [cw154,w1,cw377,w2,w3,ht.1,hb,c1,wr_id ((s.g.w:Int)-1) (by omega) (by omega),eq_true p2]
 ·obtain ⟨m1,m2,m3⟩:s.g.h=1∧s.top=0∧s.bot=0:=by
   rcases hm with h | h
   ·exact absurd h c1
   ·exact h
  have m1':(s.g.h:Int)=1:=by omega
  cases c2:s.pend with
  | false =>
   simp only [scD,scL,c2]
   simp -implicitDefEqProofs [cw154,w1,cw377,w2,w3,ht.1,hb,eq_false c1,eq_true m1',eq_true m2,eq_true m3]
  | true =>
   obtain ⟨p1,p2⟩:=hp c2
   simp only [scD,scL,c2,p1]
   simp -implicitDefEqProofs [cw154,w1,cw377,w2,w3,ht.1,hb,eq_false c1,wr_id ((s.g.w:Int)-1) (by omega) (by omega),eq_true p2,eq_true m1',eq_true m2,eq_true m3]
end Go.Proofs.YtlpchliomdomdaaGreat.LgTab
namespace Go.Proofs.YtlpchliomdomdaaGreat.LgTab
open Go Lg
set_option linter.unusedVariables false
set_option linter.unusedSimpArgs false
set_option maxRecDepth 8000
theorem atS_right {s:Sc} (r:RightS s) (a b:Int):RightS (atS s a b):=⟨r.g,r.p,r.sp,r.s0,r.s1,r.u0,r.u1,r.mar,fun h=>by cases h⟩
def SameBut (s t:Sc):Prop:=t={s with row:=t.row,col:=t.col,pend:=t.pend}
theorem SameBut.trans {s t u:Sc} (h:SameBut s t) (k:SameBut t u):SameBut s u:=by
 unfold SameBut at *
 rw [k,h]
theorem moveS_is {s:Sc} (e:Ev):(∃ a b,moveS s e=atS s a b)∨(∃ a b c d,moveS s e=atS (atS s a b) c d):=by
 unfold moveS
 simp only
 repeat' split
 all_goals first | exact .inl ⟨_,_,rfl⟩ | exact .inr ⟨_,_,_,_,rfl⟩
theorem moveS_right {s:Sc} (r:RightS s) (e:Ev):RightS (moveS s e):=by
 rcases moveS_is (s:=s) e with ⟨a,b,h⟩ | ⟨a,b,c,d,h⟩<;>rw [h]
 ·exact atS_right r _ _
 ·exact atS_right (atS_right r _ _) _ _
end Go.Proofs.YtlpchliomdomdaaGreat.LgTab
namespace Go.Proofs.YtlpchliomdomdaaGreat.LgTab
open Go Lg
set_option linter.unusedVariables false
set_option linter.unusedSimpArgs false
set_option maxRecDepth 8000
theorem rowL_setRow_ne {g:Gd} (o:OkG g) {r y:Nat} (hr:r<g.h) (hy:y<g.h) (hne:y≠r) (l:List Cel) (hl:l.length=g.w):rowL (setRow g r l) y=rowL g y:=by
 obtain ⟨_,_,_,a5,a6⟩:=row_nums o hr
 obtain ⟨_,_,_,b5,b6⟩:=row_nums o hy
 have hlen:=o.2.2.2.2
 apply List.ext_getElem?
 intro i
 have at':∀ G:Gd,(rowL G y)[i]? = if i<G.w then G.cells[rowOff G y+i]? else none:=fun G=>by
  show ((G.cells.drop (rowOff G y)).take G.w)[i]? = _
  rw [List.getElem?_take]
  split
  ·rw [List.getElem?_drop]
  ·rfl
 rw [at',at']
 have hw:(setRow g r l).w=g.w:=rfl
 rw [hw,rowOff_w hw]
 split
 ·rename_i hi
  show (g.cells.take (rowOff g r)++l++g.cells.drop (rowOff g r+g.w))[rowOff g y+i]? = _
  have ha:rowOff g r+g.w≤g.cells.length:=by
   rw [rowOff_def,hlen]
   have:=Nat.mul_le_mul_right g.w (show r+1≤g.h by omega)
   rw [Nat.add_mul,Nat.one_mul] at this
   exact this
  rcases Nat.lt_or_ge y r with hlt | hge
  ·have h1:rowOff g y+g.w≤rowOff g r:=by
    rw [rowOff_def,rowOff_def]
    have:=Nat.mul_le_mul_right g.w (show y+1≤r by omega)
    rw [Nat.add_mul,Nat.one_mul] at this
    exact this
   generalize rowOff g r=A at *
   generalize rowOff g y=B at *
   rw [List.append_assoc,List.getElem?_append_left (by simp;omega),List.getElem?_take_of_lt (by omega)]
  ·have h1:rowOff g r+g.w≤rowOff g y:=by
    rw [rowOff_def,rowOff_def]
    have:=Nat.mul_le_mul_right g.w (show r+1≤y by omega)
    rw [Nat.add_mul,Nat.one_mul] at this
    exact this
   generalize rowOff g r=A at *
   generalize rowOff g y=B at *
   rw [List.getElem?_append_right (by simp;omega),List.getElem?_drop]
   congr 1
   simp
   omega
 ·rfl
end Go.Proofs.YtlpchliomdomdaaGreat.LgTab
namespace Go.Proofs.YtlpchliomdomdaaGreat.LgTab
open Go Lg
set_option linter.unusedVariables false
set_option linter.unusedSimpArgs false
set_option maxRecDepth 8000
def RightRow (l:List Cel):Prop:=∀ i x,l[i]? = some x→RowFit l i x
theorem RightG.row {g:Gd} (h:RightG g) {r:Nat} (hr:r<g.h):RightRow (rowL g r):=fun i x hx=>RightL.row h.1 h.2 hr hx
theorem mendL_get {l:List Cel} {i:Nat} {x:Cel} (h:l[i]? = some x):(mendL l)[i]? = some (if halfB l i then blankC x.p else x):=by
 unfold mendL
 rw [List.getElem?_mapIdx,h]
 rfl
theorem wipeRow_get {l:List Cel} {i:Nat} {x:Cel} (a b:Nat) (p:Pn) (h:l[i]? = some x):(wipeRow l a b p)[i]? = some (if a≤i∧i<b then blankC p else x):=by
 unfold wipeRow
 rw [List.getElem?_mapIdx,h]
 rfl
theorem rowL_wipeG {g:Gd} (o:OkG g) {r:Nat} (hr:r<g.h) (a b:Int) (p:Pn):rowL (wipeG g r a b p) r=mendL (wipeRow (rowL g r) (mxI a 0).toNat (max (mxI a 0) (mnI b g.w)).toNat p):=by
 unfold wipeG
 exact rowL_setRow o hr (by rw [mendL_len,wipeRow_len,rowL_len o hr])
theorem rowL_wipeG_ne {g:Gd} (o:OkG g) {r y:Nat} (hr:r<g.h) (hy:y<g.h) (h:y≠r) (a b:Int) (p:Pn):rowL (wipeG g r a b p) y=rowL g y:=by
 unfold wipeG
 exact rowL_setRow_ne o hr hy h _ (by rw [mendL_len,wipeRow_len,rowL_len o hr])
theorem rowL_lineG_ne {g:Gd} (o:OkG g) {r y:Nat} (hr:r<g.h) (hy:y<g.h) (h:y≠r) (c:Nat) (what:Int) (p:Pn):rowL (lineG g r c what p) y=rowL g y:=by
 unfold lineG
 repeat' split
 ·exact rowL_wipeG_ne o hr hy h _ _ _
 ·exact rowL_wipeG_ne o hr hy h _ _ _
 ·exact rowL_wipeG_ne o hr hy h _ _ _
 ·rfl
theorem rowL_erTo {g:Gd} (o:OkG g) {r:Nat} (hr:r<g.h) (c:Nat) (what:Int) (p:Pn) {y:Nat} (hy:y<g.h) (hne:y≠r):∀ i,i≤g.h →
  rowL (erTo g r c what p i) y=if y<i∧erIn what r y=true then mendL (wipeRow (rowL g y) 0 g.w p) else rowL g y
 | 0,_=>by
  rw [if_neg (by omega)]
  exact rowL_lineG_ne o hr hy hne c what p
 | i+1,hi=>by
  obtain ⟨o1,e1,e2,e3⟩:=erTo_ok o hr c what p i (by omega)
  have ih:=rowL_erTo o hr c what p hy hne i (by omega)
  have hri:i<(erTo g r c what p i).h:=by omega
  have hyi:y<(erTo g r c what p i).h:=by omega
  unfold erTo
  by_cases he:erIn what r i=true
  ·rw [if_pos he]
   by_cases hyy:y=i
   ·subst hyy
    rw [rowL_wipeG o1 hri,ih,if_neg (by omega),if_pos ⟨by omega,he⟩]
    have b1:(mxI 0 0).toNat=0:=rfl
    have b2:(max (mxI 0 0) (mnI (g.w:Int) ((erTo g r c what p y).w:Int))).toNat=g.w:=by
     rw [e2]
     unfold mxI mnI
     simp
    rw [b1,b2]
   ·rw [rowL_wipeG_ne o1 hri hyi hyy,ih]
    by_cases h2:y<i∧erIn what r y=true
    ·rw [if_pos h2,if_pos ⟨by omega,h2.2⟩]
    ·rw [if_neg h2,if_neg (fun h=>h2 ⟨by omega,h.2⟩)]
  ·rw [if_neg he,ih]
   by_cases h2:y<i∧erIn what r y=true
   ·rw [if_pos h2,if_pos ⟨by omega,h2.2⟩]
   ·rw [if_neg h2,if_neg]
    rintro ⟨h3,h4⟩
    have:y≠i:=fun h=>he (h▸h4)
    exact h2 ⟨by omega,h4⟩
theorem rowL_erTo_self {g:Gd} (o:OkG g) {r:Nat} (hr:r<g.h) (c:Nat) (what:Int) (p:Pn):∀ i,i≤g.h→rowL (erTo g r c what p i) r=rowL (lineG g r c what p) r
 | 0,_=>rfl
 | i+1,hi=>by
  obtain ⟨o1,e1,e2,e3⟩:=erTo_ok o hr c what p i (by omega)
  have ih:=rowL_erTo_self o hr c what p i (by omega)
  unfold erTo
  by_cases he:erIn what r i=true
  ·rw [if_pos he]
   have hne:r≠i:=by
    rintro rfl
    simp [erIn] at he
   rw [rowL_wipeG_ne o1 (by omega) (by omega) hne,ih]
  ·rw [if_neg he,ih]
def goneJ (r c:Nat) (what:Int) (y i:Nat):Prop:=(what=0∧(r<y∨y=r∧c≤i))∨(what=1∧(y<r∨y=r∧i≤c))∨what=2
instance (r c:Nat) (what:Int) (y i:Nat):Decidable (goneJ r c what y i):=by unfold goneJ;infer_instance
end Go.Proofs.YtlpchliomdomdaaGreat.LgTab
namespace Go.Proofs.YtlpchliomdomdaaGreat.LgTab
open Go Lg
set_option linter.unusedVariables false
set_option linter.unusedSimpArgs false
set_option maxRecDepth 8000
def letC (k i:Nat):Cel:=⟨if i<k then 97+((i % 26:Nat):Int) else 32,0,plainP⟩
def fullN (w k:Nat):Nat:=(k-1) / w
def firstN (h w k:Nat):Nat:=fullN w k+1-h
structure TextS (h w k:Nat) (s:Sc):Prop where
 ok:OkS s
 gh:s.g.h=h
 gw:s.g.w=w
 top:s.top=0
 bot:s.bot=(h:Int)-1
 wrap:s.wrap=true
 sh:s.sh=0
 s0:s.s0=66
 p:s.p=plainP
 row:s.row=((fullN w k-firstN h w k:Nat):Int)
 col:s.col=if 0<k∧k % w=0 then (w:Int)-1 else ((k % w:Nat):Int)
 pend:s.pend=decide (0<k∧k % w=0)
 cells:∀ r,r<h→rowL s.g r=(List.range w).map fun c=>letC k ((firstN h w k+r)*w+c)
structure TextP (h w k:Nat) (s:Sc):Prop where
 ok:OkS s
 gh:s.g.h=h
 gw:s.g.w=w
 top:s.top=0
 bot:s.bot=(h:Int)-1
 wrap:s.wrap=true
 sh:s.sh=0
 s0:s.s0=66
 p:s.p=plainP
 row:s.row=((k / w-firstN h w (k+1):Nat):Int)
 col:s.col=((k % w:Nat):Int)
 cells:∀ r,r<h→rowL s.g r=(List.range w).map fun c=>letC k ((firstN h w (k+1)+r)*w+c)
def letX (k:Nat):Int:=97+((k % 26:Nat):Int)
structure FlatS (h w k:Nat) (s:Sc):Prop where
 ok:OkS s
 gh:s.g.h=h
 gw:s.g.w=w
 wrap:s.wrap=false
 sh:s.sh=0
 s0:s.s0=66
 row:s.row=0
 col:s.col=((min k (w-1):Nat):Int)
 cell:0<k→∃ x,(rowL s.g 0)[min k w-1]? = some x∧x.r=letX (k-1)
 flat:∀ (i:Nat) (x:Cel),(rowL s.g 0)[i]? = some x→x.k=0
end Go.Proofs.YtlpchliomdomdaaGreat.LgTab
namespace Go.Proofs.YtlpchliomdomdaaGreat.LgTab
open Go Lg
set_option linter.unusedVariables false
set_option linter.unusedSimpArgs false
set_option maxRecDepth 8000
theorem rowL_get (g:Gd) (r i:Nat):(rowL g r)[i]? = if i<g.w then g.cells[rowOff g r+i]? else none:=by
 show ((g.cells.drop (rowOff g r)).take g.w)[i]? = _
 rw [List.getElem?_take]
 split
 ·rw [List.getElem?_drop]
 ·rfl
theorem grid_ext {g G:Gd} (o:OkG g) (o':OkG G) (h1:G.h=g.h) (h2:G.w=g.w) (hr:∀ y,y<g.h→rowL G y=rowL g y):G=g:=by
 have hl:=o.2.2.2.2
 have hl':=o'.2.2.2.2
 rw [h1,h2] at hl'
 have hw:=o.2.2.1
 have hc:G.cells=g.cells:=by
  apply List.ext_getElem?
  intro i
  rcases Nat.lt_or_ge i (g.h*g.w) with hi | hi
  ·have hm:=Nat.mod_lt i (show 0<g.w by omega)
   have hd:=Nat.div_add_mod i g.w
   have hy:i / g.w<g.h:=by
    rw [Nat.div_lt_iff_lt_mul (by omega)]
    exact hi
   have e:=congrArg (fun l:List Cel=>l[i % g.w]?) (hr (i / g.w) hy)
   simp only [rowL_get] at e
   rw [h2,if_pos hm,if_pos hm,rowOff_w h2,rowOff_def] at e
   have ei:i / g.w*g.w+i % g.w=i:=by rw [Nat.mul_comm];exact hd
   rw [ei] at e
   exact e
  ·rw [List.getElem?_eq_none (by omega),List.getElem?_eq_none (by omega)]
 obtain ⟨h,w,cells⟩:=g
 obtain ⟨h',w',cells'⟩:=G
 simp only at h1 h2 hc
 subst h1
 subst h2
 subst hc
 rfl
theorem mendL_right {l:List Cel} (h:RightRow l):mendL l=l:=by
 apply List.ext_getElem?
 intro i
 cases hx:l[i]? with
 | none=>simp [mendL,hx]
 | some x =>
  rw [mendL_get hx,fit_half hx (h i x hx)]
  rfl
def refPut (l:List Cel) (c:Nat) (x:Int) (n:Nat) (p:Pn):List Cel :=
 let l1:=l.set c ⟨x,if n=2 then 1 else 0,p⟩
 let l2:=if n=2 then l1.set (c+1) ⟨0,2,p⟩ else l1
 let l3:=if 0<c∧kAt l c=2 then l2.set (c-1) (blankC (l.getD (c-1) default).p) else l2
 if c+n<l.length∧kAt l (c+n-1)=1 then l3.set (c+n) (blankC (l.getD (c+n) default).p) else l3
theorem right_left {l:List Cel} (h:RightRow l) {i:Nat} (hk:kAt l i=1):kAt l (i+1)=2:=by
 cases hx:l[i]? with
 | none=>simp [kAt,hx] at hk
 | some x =>
  rw [kAt_some hx] at hk
  obtain ⟨_,⟨h1,_⟩ | ⟨h1,_,d,h2,h3,_⟩ | ⟨h1,_⟩⟩:=h i x hx
  ·omega
  ·rw [kAt_some h2];exact h3
  ·omega
theorem right_right {l:List Cel} (h:RightRow l) {i:Nat} (hk:kAt l i=2):0<i∧kAt l (i-1)=1:=by
 cases hx:l[i]? with
 | none=>simp [kAt,hx] at hk
 | some x =>
  rw [kAt_some hx] at hk
  obtain ⟨_,⟨h1,_⟩ | ⟨h1,_⟩ | ⟨_,_,j,d,h2,h3,h4,_⟩⟩:=h i x hx
  ·omega
  ·omega
  ·subst h2
   exact ⟨by omega,by rw [show j+1-1=j by omega,kAt_some h3];exact h4⟩
theorem kAt_set (l:List Cel) (c:Nat) (y:Cel) (i:Nat) (hc:c<l.length):kAt (l.set c y) i=if c=i then y.k else kAt l i:=by
 unfold kAt
 rw [List.getElem?_set]
 by_cases e:c=i
 ·subst e
  simp [hc]
 ·rw [if_neg e,if_neg e]
theorem kAt_range {l:List Cel} (h:RightRow l) (i:Nat):kAt l i=0∨kAt l i=1∨kAt l i=2:=by
 cases hx:l[i]? with
 | none=>left;simp [kAt,hx]
 | some x =>
  rw [kAt_some hx]
  obtain ⟨_,⟨h1,_⟩ | ⟨h1,_⟩ | ⟨h1,_⟩⟩:=h i x hx<;>omega
theorem getD_of {l:List Cel} {i:Nat} {x:Cel} (h:l[i]? = some x):l.getD i default=x:=by
 rw [List.getD_eq_getElem?_getD,h];rfl
theorem kAt_put (l:List Cel) (c:Nat) (x:Int) (n:Nat) (hn:n=1∨n=2) (hc:c+n≤l.length) (p:Pn) (j:Nat) :
  kAt (putRow l c x n p) j=if j=c then (if n=2 then 1 else 0) else if n=2∧j=c+1 then 2 else kAt l j:=by
 rcases hn with rfl | rfl
 ·have e:putRow l c x ((1:Nat):Int) p=l.set c ⟨x,0,p⟩:=by unfold putRow;rw [if_neg (by decide)]
  rw [e,kAt_set _ _ _ _ (by omega)]
  by_cases h:c=j
  ·rw [if_pos h,if_pos h.symm];rfl
  ·rw [if_neg h,if_neg (fun hh=>h hh.symm),if_neg (by omega)]
 ·have e:putRow l c x ((2:Nat):Int) p=(l.set c ⟨x,1,p⟩).set (c+1) ⟨0,2,p⟩:=by unfold putRow;rw [if_pos (by decide)]
  rw [e,kAt_set _ _ _ _ (by simp;omega),kAt_set _ _ _ _ (by omega)]
  by_cases h:c+1=j
  ·rw [if_pos h,if_neg (by omega),if_pos ⟨rfl,h.symm⟩]
  ·rw [if_neg h]
   by_cases h2:c=j
   ·rw [if_pos h2,if_pos h2.symm];rfl
   ·rw [if_neg h2,if_neg (fun hh=>h2 hh.symm),if_neg (by omega)]
theorem half_put {l:List Cel} (h:RightRow l) (c:Nat) (x:Int) (n:Nat) (hn:n=1∨n=2) (hc:c+n≤l.length) (p:Pn) (i:Nat) (i1:i≠c) (i2:¬(n=2∧i=c+1)) :
  halfB (putRow l c x n p) i=(decide (i+1=c∧kAt l c=2) || decide (i=c+n∧kAt l (i-1)=1)):=by
 have kk:=kAt_put l c x n hn hc p
 have r1:=fun hk=>right_left h (i:=i) hk
 have r2:=fun hk=>right_right h (i:=i) hk
 have q0:kAt (putRow l c x n p) i=kAt l i:=by rw [kk,if_neg i1,if_neg i2]
 have key:halfB l i=false:=by
  unfold halfB
  rcases kAt_range h i with k | k | k
  ·simp [k]
  ·simp [k,r1 k]
  ·have:=r2 k
   have h0:¬i=0:=by omega
   simp [k,this.2,h0]
 by_cases a:i+1=c
 ·have q1:kAt (putRow l c x n p) (i+1)=if n=2 then 1 else 0:=by rw [kk,if_pos a]
  have q2:kAt (putRow l c x n p) (i-1)=kAt l (i-1):=by rw [kk,if_neg (by omega),if_neg (by omega)]
  have q3:¬(if n=2 then (1:Int) else 0)=2:=by split<;>omega
  have q4:¬i=c+n:=by omega
  unfold halfB
  rw [q0,q1,q2]
  rcases kAt_range h i with k | k | k
  ·have k2:¬kAt l c=2:=fun hh=>by have:=(right_right h hh).2;rw [←a,Nat.add_sub_cancel,k] at this;omega
   simp [k,k2,q4]
  ·have k2:kAt l c=2:=by rw [←a];exact r1 k
   simp [k,k2,q3,a]
  ·have k2:¬kAt l c=2:=fun hh=>by have:=(right_right h hh).2;rw [←a,Nat.add_sub_cancel,k] at this;omega
   have:=r2 k
   have h0:¬i=0:=by omega
   simp [k,k2,q4,this.2,h0]
 ·by_cases b:i=c+n
  ·have q1:kAt (putRow l c x n p) (i+1)=kAt l (i+1):=by rw [kk,if_neg (by omega),if_neg (by omega)]
   have q2:¬kAt (putRow l c x n p) (i-1)=1:=by
    rw [kk]
    rcases hn with rfl | rfl
    ·rw [if_pos (by omega)];decide
    ·rw [if_neg (by omega),if_pos ⟨rfl,by omega⟩];decide
   have h0:¬i=0:=by omega
   have e1:i-1+1=i:=by omega
   unfold halfB
   rw [q0,q1]
   rcases kAt_range h i with k | k | k
   ·have k2:¬kAt l (i-1)=1:=fun hh=>by have:=right_left h hh;rw [e1,k] at this;omega
    simp [k,k2,a]
   ·have k2:¬kAt l (i-1)=1:=fun hh=>by have:=right_left h hh;rw [e1,k] at this;omega
    simp [k,k2,a,r1 k]
   ·have k2:=(r2 k).2
    have hd:decide (i=c+n∧kAt l (i-1)=1)=true:=decide_eq_true ⟨b,k2⟩
    have hf:decide (kAt (putRow l c x n p) (i-1)=1)=false:=decide_eq_false q2
    rw [hd,k,hf]
    simp [h0]
  ·have q1:kAt (putRow l c x n p) (i+1)=kAt l (i+1):=by rw [kk,if_neg a,if_neg (by omega)]
   have q2:i=0∨kAt (putRow l c x n p) (i-1)=kAt l (i-1):=by
    rcases Nat.eq_zero_or_pos i with h0 | h0
    ·exact .inl h0
    ·right
     rw [kk,if_neg (by omega),if_neg (by omega)]
   have e:halfB (putRow l c x n p) i=halfB l i:=by
    unfold halfB
    rw [q0,q1]
    rcases q2 with q2 | q2
    ·simp [q2]
    ·rw [q2]
   rw [e,key]
   simp [a,b]
def putAt (l:List Cel) (c:Nat) (x:Int) (n:Nat) (p:Pn) (i:Nat) (y:Cel):Cel :=
 if i=c then ⟨x,if n=2 then 1 else 0,p⟩ else if n=2∧i=c+1 then ⟨0,2,p⟩ else if (i+1=c∧kAt l c=2)∨(i=c+n∧kAt l (i-1)=1) then blankC y.p else y
theorem putRow_get {l:List Cel} (c:Nat) (x:Int) (n:Nat) (hn:n=1∨n=2) (hc:c+n≤l.length) (p:Pn) {i:Nat} {y:Cel} (hy:l[i]? = some y) :
  (putRow l c x n p)[i]? = some (if i=c then ⟨x,if n=2 then 1 else 0,p⟩ else if n=2∧i=c+1 then ⟨0,2,p⟩ else y):=by
 rcases hn with rfl | rfl
 ·have e:putRow l c x ((1:Nat):Int) p=l.set c ⟨x,0,p⟩:=by unfold putRow;rw [if_neg (by decide)]
  rw [e,List.getElem?_set]
  by_cases h:c=i
  ·rw [if_pos h,if_pos (by omega),if_pos h.symm];rfl
  ·rw [if_neg h,if_neg (fun hh=>h hh.symm),if_neg (by omega),hy]
 ·have e:putRow l c x ((2:Nat):Int) p=(l.set c ⟨x,1,p⟩).set (c+1) ⟨0,2,p⟩:=by unfold putRow;rw [if_pos (by decide)]
  rw [e,List.getElem?_set,List.getElem?_set]
  by_cases h:c+1=i
  ·rw [if_pos h,if_pos (by simp;omega),if_neg (by omega),if_pos ⟨rfl,h.symm⟩]
  ·rw [if_neg h]
   by_cases h2:c=i
   ·rw [if_pos h2,if_pos (by omega),if_pos h2.symm];rfl
   ·rw [if_neg h2,if_neg (fun hh=>h2 hh.symm),if_neg (by omega),hy]
theorem put_mend_get {l:List Cel} (h:RightRow l) (c:Nat) (x:Int) (n:Nat) (hn:n=1∨n=2) (hc:c+n≤l.length) (p:Pn) {i:Nat} {y:Cel} (hy:l[i]? = some y) :
  (mendL (putRow l c x n p))[i]? = some (putAt l c x n p i y):=by
 have kk:=kAt_put l c x n hn hc p
 rw [mendL_get (putRow_get c x n hn hc p hy)]
 unfold putAt
 by_cases e1:i=c
 ·subst e1
  have hf:halfB (putRow l i x n p) i=false:=by
   unfold halfB
   have q1:=kk i
   have q2:=kk (i+1)
   rw [if_pos rfl] at q1
   rw [if_neg (by omega)] at q2
   rw [q1,q2]
   rcases hn with rfl | rfl
   ·simp
   ·simp
  rw [hf]
  simp
 ·by_cases e2:n=2∧i=c+1
  ·obtain ⟨rfl,rfl⟩:=e2
   have hf:halfB (putRow l c x ((2:Nat):Int) p) (c+1)=false:=by
    unfold halfB
    have q1:=kk (c+1)
    have q2:=kk c
    rw [if_neg (by omega),if_pos ⟨rfl,rfl⟩] at q1
    rw [if_pos rfl] at q2
    have e3:c+1-1=c:=by omega
    rw [q1,e3,q2]
    simp
   rw [hf]
   simp
  ·rw [half_put h c x n hn hc p i e1 e2]
   simp only [if_neg e1,if_neg e2]
   by_cases e3:(i+1=c∧kAt l c=2)∨(i=c+n∧kAt l (i-1)=1)
   ·rw [if_pos e3]
    have:(decide (i+1=c∧kAt l c=2) || decide (i=c+n∧kAt l (i-1)=1))=true:=by
     rcases e3 with e3 | e3
     ·rw [decide_eq_true e3];rfl
     ·rw [decide_eq_true e3,Bool.or_true]
    rw [this]
    rfl
   ·rw [if_neg e3]
    have:(decide (i+1=c∧kAt l c=2) || decide (i=c+n∧kAt l (i-1)=1))=false:=by
     rw [decide_eq_false (fun h=>e3 (.inl h)),decide_eq_false (fun h=>e3 (.inr h))];rfl
    rw [this]
    rfl
theorem put_ref_get {l:List Cel} (c:Nat) (x:Int) (n:Nat) (hn:n=1∨n=2) (hc:c+n≤l.length) (p:Pn) {i:Nat} {y:Cel} (hy:l[i]? = some y) :
  (refPut l c x n p)[i]? = some (putAt l c x n p i y):=by
 have hi:=(List.getElem?_eq_some_iff.1 hy).1
 have gd:=getD_of hy
 have L2:∀ j:Nat,(if n=2 then (l.set c ⟨x,if n=2 then 1 else 0,p⟩).set (c+1) ⟨0,2,p⟩ else l.set c ⟨x,if n=2 then 1 else 0,p⟩)=putRow l c x n p:=by
  intro j
  unfold putRow
  rcases hn with rfl | rfl
  ·rw [if_neg (by decide),if_neg (by decide),if_neg (by decide)]
  ·rw [if_pos rfl,if_pos rfl,if_pos (by decide)]
 have hg:=putRow_get c x n hn hc p hy
 have hlen:(putRow l c x n p).length=l.length:=putRow_len' _ _ _ _ _
 unfold refPut
 simp only
 rw [L2 0]
 generalize putRow l c x n p=L at *
 have s1:∀ (X:List Cel) (k:Nat) (z:Cel),X.length=l.length→(X.set k z)[i]? = if k=i then some z else X[i]?:=by
  intro X k z hX
  rw [List.getElem?_set]
  by_cases e:k=i
  ·rw [if_pos e,if_pos e,if_pos (by omega)]
  ·rw [if_neg e,if_neg e]
 unfold putAt
 by_cases a:0<c∧kAt l c=2
 ·rw [if_pos a]
  by_cases b:c+n<l.length∧kAt l (c+n-1)=1
  ·rw [if_pos b,s1 _ _ _ (by simp [hlen]),s1 _ _ _ hlen,hg]
   by_cases e1:c+n=i
   ·rw [if_pos e1,if_neg (by omega),if_neg (by omega),if_pos (.inr ⟨e1.symm,by rw [←e1];exact b.2⟩),e1,gd]
   ·rw [if_neg e1]
    by_cases e2:c-1=i
    ·rw [if_pos e2,if_neg (by omega),if_neg (by omega),if_pos (.inl ⟨by omega,a.2⟩),e2,gd]
    ·rw [if_neg e2]
     by_cases e3:i=c
     ·rw [if_pos e3,if_pos e3]
     ·rw [if_neg e3,if_neg e3]
      by_cases e4:n=2∧i=c+1
      ·rw [if_pos e4,if_pos e4]
      ·rw [if_neg e4,if_neg e4,if_neg (by omega)]
  ·rw [if_neg b,s1 _ _ _ hlen,hg]
   by_cases e2:c-1=i
   ·rw [if_pos e2,if_neg (by omega),if_neg (by omega),if_pos (.inl ⟨by omega,a.2⟩),e2,gd]
   ·rw [if_neg e2]
    by_cases e3:i=c
    ·rw [if_pos e3,if_pos e3]
    ·rw [if_neg e3,if_neg e3]
     by_cases e4:n=2∧i=c+1
     ·rw [if_pos e4,if_pos e4]
     ·rw [if_neg e4,if_neg e4,if_neg]
      rintro (h | h)
      ·omega
      ·exact b ⟨by omega,by rw [←h.1];exact h.2⟩
 ·rw [if_neg a]
  by_cases b:c+n<l.length∧kAt l (c+n-1)=1
  ·rw [if_pos b,s1 _ _ _ hlen,hg]
   by_cases e1:c+n=i
   ·rw [if_pos e1,if_neg (by omega),if_neg (by omega),if_pos (.inr ⟨e1.symm,by rw [←e1];exact b.2⟩),e1,gd]
   ·rw [if_neg e1]
    by_cases e3:i=c
    ·rw [if_pos e3,if_pos e3]
    ·rw [if_neg e3,if_neg e3]
     by_cases e4:n=2∧i=c+1
     ·rw [if_pos e4,if_pos e4]
     ·rw [if_neg e4,if_neg e4,if_neg]
      rintro (h | h)
      ·exact a ⟨by omega,h.2⟩
      ·omega
  ·rw [if_neg b,hg]
   by_cases e3:i=c
   ·rw [if_pos e3,if_pos e3]
   ·rw [if_neg e3,if_neg e3]
    by_cases e4:n=2∧i=c+1
    ·rw [if_pos e4,if_pos e4]
    ·rw [if_neg e4,if_neg e4,if_neg]
     rintro (h | h)
     ·exact a ⟨by omega,h.2⟩
     ·exact b ⟨by omega,by rw [←h.1];exact h.2⟩
theorem refPut_len (l:List Cel) (c:Nat) (x:Int) (n:Nat) (p:Pn):(refPut l c x n p).length=l.length:=by
 unfold refPut
 simp only
 repeat' split
 all_goals simp
theorem put_ref {l:List Cel} (h:RightRow l) (c:Nat) (x:Int) (n:Nat) (hn:n=1∨n=2) (hc:c+n≤l.length) (p:Pn):mendL (putRow l c x n p)=refPut l c x n p:=by
 apply List.ext_getElem?
 intro i
 rcases Nat.lt_or_ge i l.length with hi | hi
 ·obtain ⟨y,hy⟩:=get_ex hi
  rw [put_mend_get h c x n hn hc p hy,put_ref_get c x n hn hc p hy]
 ·rw [List.getElem?_eq_none (by rw [mendL_len',putRow_len'];exact hi),List.getElem?_eq_none (by rw [refPut_len];exact hi)]
end Go.Proofs.YtlpchliomdomdaaGreat.LgTab
