import Derived.Test.YtlpchliomdomdaaGreatPt16
namespace Go.Proofs.YtlpchliomdomdaaGreat.LgTab
open Go Lg
set_option linter.unusedVariables false
set_option linter.unusedSimpArgs false
set_option maxRecDepth 8000
theorem widthR_cases (x:Int):widthR x=0∨widthR x=1∨widthR x=2:=by
 unfold widthR
 repeat' split
 all_goals simp
theorem putRow_len' (l:List Cel) (c:Nat) (x w:Int) (p:Pn):(putRow l c x w p).length=l.length:=by
 unfold putRow
 repeat' split
 all_goals simp
theorem mendL_len' (l:List Cel):(mendL l).length=l.length:=by simp
theorem sp152 (k:Nat) (g:Gd) (o:OkG g) (hl:g.cells.length≤100000) (r c:Nat) (hr:r<g.h) (x:Int) (p:Pn) (h0:widthR x≠0) (hc:(c:Int)+widthR x≤g.w):evFun (clOf (modsR tab (k+3)) 3) s152 [gdD g,I r,I c,R x,pnD p]=some (gdD (putG g r c x p),[]):=by
 rcases widthR_cases x with h | h | h
 ·exact absurd h h0
 ·exact sp152a k g o hl r c hr x p h (by omega)
 ·exact sp152b k g o hl r c hr x p h (by omega)
def prep (s:Sc) (w:Int):Sc :=
 if s.wrap=true∧(s.pend=true∨(s.g.w:Int)<s.col+w) then feedS (atS s s.row 0)
 else if (s.g.w:Int)<s.col+w then {s with col:=s.g.w-w} else s
def inked (s:Sc) (x:Int):Sc :=
 {s with g:=putG s.g s.row.toNat s.col.toNat x s.p,col:=mnI (s.col+widthR x) ((s.g.w:Int)-1),pend:=decide ((s.g.w:Int)≤s.col+widthR x) && s.wrap}
def printS (s:Sc) (x0:Int):Sc :=
 if widthR (drawnI s x0)=0∨(s.g.w:Int)<widthR (drawnI s x0) then s
 else inked (prep s (widthR (drawnI s x0))) (drawnI s x0)
theorem feedS_w (s:Sc):(feedS s).g.w=s.g.w:=by
 unfold feedS
 split
 ·show (shG _ _ _ _ _).w=_
  unfold shG
  generalize s.bot.toNat+1-s.top.toNat=n
  induction n with
  | zero=>rfl
  | succ n ih=>exact ih
 ·rfl
theorem feedS_col (s:Sc):(feedS (atS s s.row 0)).col=nearI 0 s.g.w:=by
 unfold feedS
 split
 ·rfl
 ·show nearI (nearI 0 s.g.w) s.g.w=_
  unfold nearI mxI mnI
  repeat' split
  all_goals omega
theorem prep_ok {s:Sc} (o:OkS s) {w:Int} (h0:1≤w) (h1:w≤s.g.w):OkS (prep s w)∧(prep s w).g.w=s.g.w∧0≤(prep s w).col∧(prep s w).col+w≤s.g.w:=by
 unfold prep
 split
 ·refine ⟨feedS_ok (atS_ok o _ _),feedS_w _,?_⟩
  rw [feedS_col,nearI_id (by omega) (by omega)]
  omega
 ·split
  ·rename_i h
   refine ⟨⟨o.g,o.h,o.w,o.row,?_,o.top,o.bot,o.tabs,o.sh,o.ssh,o.srow,o.scol⟩,rfl,?_⟩
   ·show 0≤(s.g.w:Int)-w∧(s.g.w:Int)-w<s.g.w
    omega
   ·show 0≤(s.g.w:Int)-w∧(s.g.w:Int)-w+w≤s.g.w
    omega
  ·have:=o.col
   exact ⟨o,rfl,this.1,by omega⟩
set_option maxHeartbeats 4000000 in
theorem sp402 (k:Nat) (s:Sc) (o:OkS s) (x:Int):evFun (clOf (modsR tab (k+7)) 3) s402 [scD s,R x]=some (scD (printS s x),[]):=by
 have w1:=fun q=>sp370 q s o.g (by have:=o.len;omega)
 have w2:=fun q=>sp407 q s o x
 have w3:=fun q=>sp109 q (drawnI s x)
 have hw:=o.w
 have hc:=o.col
 obtain ⟨y,ey⟩:∃ y,y=drawnI s x:=⟨_,rfl⟩
 have hwc:=widthR_cases y
 rw [←ey] at w2 w3
 obtain ⟨w,ew⟩:∃ w,w=widthR y:=⟨_,rfl⟩
 rw [←ew] at w3 hwc
 by_cases c0:w=0
 ·have ee:printS s x=s:=by unfold printS;rw [←ey,←ew,if_pos (.inl c0)]
  rw [ee,evFun_evB rfl]
  unfold s402
  simp -implicitDefEqProofs [cw370,w1,cw407,w2,cw109,cr109,w3,eq_true c0]
 by_cases c1:(s.g.w:Int)<w
 ·have ee:printS s x=s:=by unfold printS;rw [←ey,←ew,if_pos (.inr c1)]
  rw [ee,evFun_evB rfl]
  unfold s402
  simp -implicitDefEqProofs [cw370,w1,cw407,w2,cw109,cr109,w3,c0,c1]
 have ee:printS s x=inked (prep s w) y:=by unfold printS;rw [←ey,←ew,if_neg (fun h=>h.elim c0 c1)]
 obtain ⟨po,pw,p0,p1⟩:=prep_ok o (w:=w) (by omega) (by omega)
 have pl:=po.len
 have pr:=po.row
 have er:((prep s w).row.toNat:Int)=(prep s w).row:=Int.toNat_of_nonneg pr.1
 have ec:((prep s w).col.toNat:Int)=(prep s w).col:=Int.toNat_of_nonneg p0
 have v:=fun q=>sp152 q (prep s w).g po.g (by omega) (prep s w).row.toNat (prep s w).col.toNat (by omega) y (prep s w).p (by rw [←ew];exact c0) (by rw [ec,←ew,pw];exact p1)
 rw [er,ec] at v
 have ei:inked (prep s w) y={prep s w with g:=putG (prep s w).g (prep s w).row.toNat (prep s w).col.toNat y (prep s w).p,col:=mnI ((prep s w).col+w) ((s.g.w:Int)-1),pend:=decide ((s.g.w:Int)≤(prep s w).col+w) && (prep s w).wrap}:=by unfold inked;rw [←ew,pw]
 have eg:∀ r c,(putG (prep s w).g r c y (prep s w).p).h=(prep s w).g.h∧(putG (prep s w).g r c y (prep s w).p).w=(prep s w).g.w:=fun r c=>⟨rfl,rfl⟩
 rw [ee,ei]
 clear ee ei
 by_cases c2:s.wrap=true∧(s.pend=true∨(s.g.w:Int)<s.col+w)
 ·have ep:prep s w=feedS (atS s s.row 0):=by unfold prep;rw [if_pos c2]
  have u1:=fun q=>sp404 q s o 0
  have u2:=fun q=>sp125 q _ (atS_ok o s.row 0)
  rw [←ep] at u2
  clear ep
  generalize putG (prep s w).g (prep s w).row.toNat (prep s w).col.toNat y (prep s w).p=G at *
  generalize prep s w=S1 at *
  generalize atS s s.row 0=S2 at *
  have hle:∀ (P:Prop) [Decidable P],(decide P && S1.wrap)=(if P then S1.wrap else false):=by intro P _;by_cases h:P<;>simp [h]
  rw [hle]
  by_cases c5:(s.g.w:Int)≤S1.col+w
  ·rw [if_pos c5]
   rcases c2.2 with c3 | c3
   ·rw [evFun_evB rfl]
    unfold s402
    simp only [scD,scL,c2.1,c3] at w1 w2 u1 ⊢
    simp -implicitDefEqProofs [cw370,w1,cw407,w2,cw109,cr109,w3,c0,c1,c2.1,c3,cw404,u1,cw125,u2,cw152,v,wr_id (S1.col+w) (by omega) (by omega),wr_id ((s.g.w:Int)-1) (by omega) (by omega),c5]
   ·by_cases c4:s.pend=true
    ·rw [evFun_evB rfl]
     unfold s402
     simp only [scD,scL,c2.1,c4] at w1 w2 u1 ⊢
     simp -implicitDefEqProofs [cw370,w1,cw407,w2,cw109,cr109,w3,c0,c1,c2.1,c4,cw404,u1,cw125,u2,cw152,v,wr_id (S1.col+w) (by omega) (by omega),wr_id ((s.g.w:Int)-1) (by omega) (by omega),c5]
    ·rw [Bool.not_eq_true] at c4
     rw [evFun_evB rfl]
     unfold s402
     simp only [scD,scL,c2.1,c4] at w1 w2 u1 ⊢
     simp -implicitDefEqProofs [cw370,w1,cw407,w2,cw109,cr109,w3,c0,c1,c2.1,c3,c4,cw404,u1,cw125,u2,cw152,v,wr_id (S1.col+w) (by omega) (by omega),wr_id (s.col+w) (by omega) (by omega),wr_id ((s.g.w:Int)-1) (by omega) (by omega),c5]
  ·rw [if_neg c5]
   rcases c2.2 with c3 | c3
   ·rw [evFun_evB rfl]
    unfold s402
    simp only [scD,scL,c2.1,c3] at w1 w2 u1 ⊢
    simp -implicitDefEqProofs [cw370,w1,cw407,w2,cw109,cr109,w3,c0,c1,c2.1,c3,cw404,u1,cw125,u2,cw152,v,wr_id (S1.col+w) (by omega) (by omega),wr_id ((s.g.w:Int)-1) (by omega) (by omega),c5]
   ·by_cases c4:s.pend=true
    ·rw [evFun_evB rfl]
     unfold s402
     simp only [scD,scL,c2.1,c4] at w1 w2 u1 ⊢
     simp -implicitDefEqProofs [cw370,w1,cw407,w2,cw109,cr109,w3,c0,c1,c2.1,c4,cw404,u1,cw125,u2,cw152,v,wr_id (S1.col+w) (by omega) (by omega),wr_id ((s.g.w:Int)-1) (by omega) (by omega),c5]
    ·rw [Bool.not_eq_true] at c4
     rw [evFun_evB rfl]
     unfold s402
     simp only [scD,scL,c2.1,c4] at w1 w2 u1 ⊢
     simp -implicitDefEqProofs [cw370,w1,cw407,w2,cw109,cr109,w3,c0,c1,c2.1,c3,c4,cw404,u1,cw125,u2,cw152,v,wr_id (S1.col+w) (by omega) (by omega),wr_id (s.col+w) (by omega) (by omega),wr_id ((s.g.w:Int)-1) (by omega) (by omega),c5]
 ·by_cases c3:(s.g.w:Int)<s.col+w
  ·have c4:s.wrap=false:=by
    cases hh:s.wrap with
    | false=>rfl
    | true=>exact absurd ⟨hh, .inr c3⟩ c2
   have ep:prep s w={s with col:=(s.g.w:Int)-w}:=by unfold prep;rw [if_neg c2,if_pos c3]
   rw [ep] at v ⊢
   have e1:(s.g.w:Int)-w+w=s.g.w:=by omega
   simp only [e1,c4,Bool.and_false]
   have e2:((s.g.w:Int)-w).toNat=((s.g.w:Int)-w).toNat:=rfl
   simp only at v
   generalize putG s.g s.row.toNat ((s.g.w:Int)-w).toNat y s.p=G at *
   rw [evFun_evB rfl]
   unfold s402
   simp only [scD,scL,c4] at w1 w2 ⊢
   simp -implicitDefEqProofs [cw370,w1,cw407,w2,cw109,cr109,w3,c0,c1,c3,c4,cw152,v,wr_id (s.col+w) (by omega) (by omega),wr_id ((s.g.w:Int)-w) (by omega) (by omega),e1,wr_id ((s.g.w:Int)) (by omega) (by omega),wr_id ((s.g.w:Int)-1) (by omega) (by omega)]
  ·have ep:prep s w=s:=by unfold prep;rw [if_neg c2,if_neg c3]
   rw [ep] at v ⊢
   generalize putG s.g s.row.toNat s.col.toNat y s.p=G at *
   cases c4:s.wrap with
   | false =>
    simp only [Bool.and_false]
    rw [evFun_evB rfl]
    unfold s402
    simp only [scD,scL,c4] at w1 w2 ⊢
    by_cases c5:(s.g.w:Int)≤s.col+w
    ·simp -implicitDefEqProofs [cw370,w1,cw407,w2,cw109,cr109,w3,c0,c1,c3,c4,cw152,v,wr_id (s.col+w) (by omega) (by omega),wr_id ((s.g.w:Int)-1) (by omega) (by omega),c5]
    ·simp -implicitDefEqProofs [cw370,w1,cw407,w2,cw109,cr109,w3,c0,c1,c3,c4,cw152,v,wr_id (s.col+w) (by omega) (by omega),wr_id ((s.g.w:Int)-1) (by omega) (by omega),c5]
   | true =>
    have c6:s.pend=false:=by
     cases hh:s.pend with
     | false=>rfl
     | true=>exact absurd ⟨c4, .inl hh⟩ c2
    simp only [Bool.and_true]
    rw [evFun_evB rfl]
    unfold s402
    simp only [scD,scL,c4,c6] at w1 w2 ⊢
    by_cases c5:(s.g.w:Int)≤s.col+w
    ·simp -implicitDefEqProofs [cw370,w1,cw407,w2,cw109,cr109,w3,c0,c1,c3,c4,c6,cw152,v,wr_id (s.col+w) (by omega) (by omega),wr_id ((s.g.w:Int)-1) (by omega) (by omega),c5]
    ·simp -implicitDefEqProofs [cw370,w1,cw407,w2,cw109,cr109,w3,c0,c1,c3,c4,c6,cw152,v,wr_id (s.col+w) (by omega) (by omega),wr_id ((s.g.w:Int)-1) (by omega) (by omega),c5]
noncomputable def doS (s:Sc) (e:Ev):Sc :=
 if e.k=1 then printS s e.r else if e.k=2 then execS s e.fi else if e.k=3 then escS s e else if e.k=4 then csiS s e else s
set_option maxHeartbeats 4000000 in
theorem sp400 (k:Nat) (s:Sc) (o:OkS s) (e:Ev) (hl:e.par.length≤100000):evFun (clOf (modsR tab (k+8)) 3) s400 [scD s,evD e]=some (scD (doS s e),[]):=by
 have w1:=fun q=>sp370 q s o.g (by have:=o.len;omega)
 by_cases c1:e.k=1
 ·have ee:doS s e=printS s e.r:=by unfold doS;rw [if_pos c1]
  have v:=fun q=>sp402 q s o e.r
  rw [ee]
  generalize printS s e.r=S' at *
  rw [evFun_evB rfl]
  unfold s400
  simp -implicitDefEqProofs [cw370,w1,eq_true c1,cw402,v]
 by_cases c2:e.k=2
 ·have ee:doS s e=execS s e.fi:=by unfold doS;rw [if_neg c1,if_pos c2]
  have v:=fun q=>sp410 q s o e.fi
  rw [ee]
  generalize execS s e.fi=S' at *
  rw [evFun_evB rfl]
  unfold s400
  simp -implicitDefEqProofs [cw370,w1,c1,eq_true c2,cw410,v]
 by_cases c3:e.k=3
 ·have ee:doS s e=escS s e:=by unfold doS;rw [if_neg c1,if_neg c2,if_pos c3]
  have v:=fun q=>sp409 q s o e
  rw [ee]
  generalize escS s e=S' at *
  rw [evFun_evB rfl]
  unfold s400
  simp -implicitDefEqProofs [cw370,w1,c1,c2,eq_true c3,cw409,v]
 by_cases c4:e.k=4
 ·have ee:doS s e=csiS s e:=by unfold doS;rw [if_neg c1,if_neg c2,if_neg c3,if_pos c4]
  have v:=fun q=>sp405 q s o e hl
  rw [ee]
  generalize csiS s e=S' at *
  rw [evFun_evB rfl]
  unfold s400
  simp -implicitDefEqProofs [cw370,w1,c1,c2,c3,eq_true c4,cw405,v]
 have ee:doS s e=s:=by unfold doS;rw [if_neg c1,if_neg c2,if_neg c3,if_neg c4]
 rw [ee,evFun_evB rfl]
 unfold s400
 simp -implicitDefEqProofs [cw370,w1,c1,c2,c3,c4]
end Go.Proofs.YtlpchliomdomdaaGreat.LgTab
namespace Go.Proofs.YtlpchliomdomdaaGreat.LgTab
open Go Lg
set_option linter.unusedVariables false
set_option linter.unusedSimpArgs false
set_option maxRecDepth 8000
theorem grid_ok {s:Sc} (o:OkS s) (G:Gd) (h:OkG G) (e1:G.h=s.g.h) (e2:G.w=s.g.w):OkS {s with g:=G} :=
 ⟨h,by show G.h≤40;rw [e1];exact o.h,by show G.w≤60;rw [e2];exact o.w,by show 0≤s.row∧s.row<(G.h:Int);rw [e1];exact o.row,by show 0≤s.col∧s.col<(G.w:Int);rw [e2];exact o.col,o.top,by show s.bot<(G.h:Int);rw [e1];exact o.bot,o.tabs,o.sh,o.ssh,by show 0≤s.sv.r∧s.sv.r<(G.h:Int);rw [e1];exact o.srow,by show 0≤s.sv.c∧s.sv.c<(G.w:Int);rw [e2];exact o.scol⟩
theorem row_ok {g:Gd} (o:OkG g) {r:Nat} (hr:r<g.h) (l:List Cel) (hl:l.length=g.w):OkG (setRow g r l)∧(setRow g r l).h=g.h∧(setRow g r l).w=g.w:=⟨o.setRow hr l hl,rfl,rfl⟩
theorem desig_ok {s:Sc} (o:OkS s) (a b:Int):OkS (desigS s a b):=by
 unfold desigS
 repeat' split
 all_goals first | exact o | exact ⟨o.g,o.h,o.w,o.row,o.col,o.top,o.bot,o.tabs,o.sh,o.ssh,o.srow,o.scol⟩
theorem newS_ok (h w:Nat) (h0:1≤h∧h≤40) (h1:1≤w∧w≤60):OkS (newS h w):=by
 refine ⟨newG_ok h w h0 h1 _,h0.2,h1.2,?_,?_,?_,?_,newTo_lt _, .inl rfl, .inl rfl,?_,?_⟩
 ·show (0:Int)≤0∧(0:Int)<(h:Int);omega
 ·show (0:Int)≤0∧(0:Int)<(w:Int);omega
 ·show (0:Int)≤0∧(0:Int)≤(h:Int)-1;omega
 ·show (h:Int)-1<(h:Int);omega
 ·show (0:Int)≤0∧(0:Int)<(h:Int);omega
 ·show (0:Int)≤0∧(0:Int)<(w:Int);omega
theorem tabs_ok {s:Sc} (o:OkS s) {t:Nat} (h:t<2 ^ 64):OkS {s with tabs:=t}:=⟨o.g,o.h,o.w,o.row,o.col,o.top,o.bot,h,o.sh,o.ssh,o.srow,o.scol⟩
theorem execS_ok {s:Sc} (o:OkS s) (b:Int):OkS (execS s b):=by
 unfold execS
 repeat' split
 ·exact atS_ok o _ _
 ·exact atS_ok o _ _
 ·exact feedS_ok o
 ·exact atS_ok o _ _
 ·exact ⟨o.g,o.h,o.w,o.row,o.col,o.top,o.bot,o.tabs, .inr rfl,o.ssh,o.srow,o.scol⟩
 ·exact ⟨o.g,o.h,o.w,o.row,o.col,o.top,o.bot,o.tabs, .inl rfl,o.ssh,o.srow,o.scol⟩
 ·exact o
theorem escS_ok {s:Sc} (o:OkS s) (e:Ev):OkS (escS s e):=by
 unfold escS
 repeat' split
 ·exact desig_ok o _ _
 ·exact saveS_ok o
 ·exact restS_ok o
 ·exact feedS_ok o
 ·exact feedS_ok (atS_ok o _ _)
 ·exact backS_ok o
 ·exact tabs_ok o (Nat.or_lt_two_pow o.tabs (bitN_lt _))
 ·exact newS_ok _ _ ⟨o.g.1,o.h⟩ ⟨o.g.2.2.1,o.w⟩
 ·exact ⟨o.g,o.h,o.w,o.row,o.col,o.top,o.bot,o.tabs,o.sh,o.ssh,o.srow,o.scol⟩
 ·exact ⟨o.g,o.h,o.w,o.row,o.col,o.top,o.bot,o.tabs,o.sh,o.ssh,o.srow,o.scol⟩
 ·exact o
theorem moveS_ok {s:Sc} (o:OkS s) (e:Ev):OkS (moveS s e):=by
 unfold moveS
 simp only
 repeat' split
 all_goals first | exact atS_ok o _ _ | exact atS_ok (atS_ok o _ _) _ _
theorem rowsS_ok {s:Sc} (o:OkS s) (e:Ev):OkS (rowsS s e):=by
 unfold rowsS
 simp only
 split
 ·exact moveG_ok o o.top.1 o.top.2 o.bot _
 split
 ·exact moveG_ok o o.top.1 o.top.2 o.bot _
 split
 ·exact o
 rename_i h
 have hb:=o.bot
 split
 ·exact atS_ok (moveG_ok o o.row.1 (by omega) hb _) _ _
 ·exact atS_ok (moveG_ok o o.row.1 (by omega) hb _) _ _
theorem margS_ok {s:Sc} (o:OkS s) (e:Ev):OkS (margS s e):=by
 unfold margS
 simp only
 split
 ·exact o
 ·rename_i h
  have hn:=from1I_b e.par 0
  have hg:=o.g.1
  have hm:=argI_b e.par 1 s.g.h 1 s.g.h (by omega)
  exact atS_ok (marg_ok o (by omega) (by omega) (by omega)) _ _
theorem chgG_ok {s:Sc} (o:OkS s) (e:Ev):OkG (chgG s e)∧(chgG s e).h=s.g.h∧(chgG s e).w=s.g.w:=by
 have hr:=o.row
 have hc:=o.col
 have hrn:s.row.toNat<s.g.h:=by omega
 have hcn:s.col.toNat<s.g.w:=by omega
 unfold chgG
 simp only
 split
 ·unfold eraseG
  split
  ·exact ⟨o.g,rfl,rfl⟩
  ·have:=erTo_ok o.g hrn s.col.toNat (argI e.par 0 0 0 65535) (fillP s) s.g.h (Nat.le_refl _)
   exact ⟨this.1,this.2.1,this.2.2.1⟩
 split
 ·have:=lineG_ok o.g hrn s.col.toNat (argI e.par 0 0 0 65535) (fillP s)
  exact ⟨this.1,this.2.1,this.2.2.1⟩
 split
 ·refine row_ok o.g hrn _ ?_
  obtain ⟨_,m1,m2⟩:=many_eq s.g s.col.toNat hcn (from1I e.par 0) (from1I_b e.par 0).1
  rw [mendL_len',inRow_len _ _ _ _ (by rw [rowL_len o.g hrn];exact m2),rowL_len o.g hrn]
 split
 ·refine row_ok o.g hrn _ ?_
  obtain ⟨_,m1,m2⟩:=many_eq s.g s.col.toNat hcn (from1I e.par 0) (from1I_b e.par 0).1
  rw [mendL_len',deRow_len _ _ _ _ (by rw [rowL_len o.g hrn];exact m2),rowL_len o.g hrn]
 split
 ·have:=wipeG_ok o.g hrn s.col (s.col+from1I e.par 0) (fillP s)
  exact ⟨this.1,this.2.1,this.2.2.1⟩
 ·exact ⟨o.g,rfl,rfl⟩
theorem chgS_ok {s:Sc} (o:OkS s) (e:Ev):OkS (chgS s e):=by
 obtain ⟨a,e1,e2⟩:=chgG_ok o e
 exact pend_ok (grid_ok o _ a e1 e2)
theorem csiS_ok {s:Sc} (o:OkS s) (e:Ev):OkS (csiS s e):=by
 unfold csiS
 split
 ·exact o
 split
 ·unfold setS
  split
  ·exact setTo_ok o _ _ _
  ·exact o
 split
 ·exact o
 split
 ·exact moveS_ok o e
 split
 ·exact chgS_ok o e
 split
 ·exact rowsS_ok o e
 split
 ·exact ⟨o.g,o.h,o.w,o.row,o.col,o.top,o.bot,o.tabs,o.sh,o.ssh,o.srow,o.scol⟩
 split
 ·exact margS_ok o e
 split
 ·unfold dropS
  split
  ·exact tabs_ok o (dropN_lt o.tabs)
  split
  ·exact tabs_ok o (by omega)
  ·exact o
 split
 ·exact saveS_ok o
 split
 ·exact restS_ok o
 ·exact o
theorem printS_ok {s:Sc} (o:OkS s) (x:Int):OkS (printS s x):=by
 unfold printS
 split
 ·exact o
 ·rename_i h
  have hw:=widthR_cases (drawnI s x)
  generalize drawnI s x=y at *
  obtain ⟨po,pw,p0,p1⟩:=prep_ok o (w:=widthR y) (by omega) (by omega)
  have hr:=po.row
  have hrn:(prep s (widthR y)).row.toNat<(prep s (widthR y)).g.h:=by omega
  have hg:OkG (putG (prep s (widthR y)).g (prep s (widthR y)).row.toNat (prep s (widthR y)).col.toNat y (prep s (widthR y)).p):=by
   refine (row_ok po.g hrn _ ?_).1
   rw [mendL_len',putRow_len',rowL_len po.g hrn]
  have o2:=grid_ok po _ hg rfl rfl
  refine ⟨o2.g,o2.h,o2.w,o2.row,?_,o2.top,o2.bot,o2.tabs,o2.sh,o2.ssh,o2.srow,o2.scol⟩
  show 0≤mnI ((prep s (widthR y)).col+widthR y) (((prep s (widthR y)).g.w:Int)-1)∧mnI ((prep s (widthR y)).col+widthR y) (((prep s (widthR y)).g.w:Int)-1)<((prep s (widthR y)).g.w:Int)
  have hw1:=po.g.2.2.1
  unfold mnI
  split<;>omega
theorem doS_ok {s:Sc} (o:OkS s) (e:Ev):OkS (doS s e):=by
 unfold doS
 split
 ·exact printS_ok o _
 split
 ·exact execS_ok o _
 split
 ·exact escS_ok o e
 split
 ·exact csiS_ok o e
 ·exact o
end Go.Proofs.YtlpchliomdomdaaGreat.LgTab
