import Derived.Test.YtlpchliomdomdaaGreatPt13
namespace Go.Proofs.YtlpchliomdomdaaGreat.LgTab
open Go Lg
set_option linter.unusedVariables false
set_option linter.unusedSimpArgs false
set_option maxRecDepth 8000
def argI (l:List Int) (i:Nat) (none lo hi:Int):Int :=
 mxI lo (mnI (match l[i]? with | some x=>if x≠ -1∧(x≠0∨lo≤0) then x else none | .none=>none) hi)
theorem argI_b (l:List Int) (i:Nat) (none lo hi:Int) (h:lo≤hi):lo≤argI l i none lo hi∧argI l i none lo hi≤hi:=by
 unfold argI
 generalize (match l[i]? with | some x=>if x≠ -1∧(x≠0∨lo≤0) then x else none | .none=>none)=n
 unfold mxI mnI
 repeat' split
 all_goals omega
set_option maxHeartbeats 2000000 in
theorem sp381 (k:Nat) (e:Ev) (i:Nat) (none lo hi:Int):evFun (clOf (modsR tab k) 3) s381 [evD e,I i,I none,I lo,I hi]=some (I (argI e.par i none lo hi),[]):=by
 obtain ⟨ek,er,ep,ei,ef,ps,et⟩:=e
 rw [evFun_evB rfl]
 unfold s381 argI Ev.par
 cases ps with
 | none =>
  have h:¬(i:Int)<0:=by omega
  simp -implicitDefEqProofs [parD,h]
 | some l =>
  by_cases hi:i<l.length
  ·obtain ⟨x,hx⟩:=get_ex hi
   have hi':(i:Int)<l.length:=by omega
   have hg:=intsD_at hx
   by_cases h1:x = -1
   ·simp -implicitDefEqProofs [parD,hi,hi',hg,hx,get_of hx,h1]
   ·by_cases h2:x=0
    ·by_cases h3:lo≤0
     ·simp -implicitDefEqProofs [parD,hi,hi',hg,hx,get_of hx,h1,h2,h3]
     ·simp -implicitDefEqProofs [parD,hi,hi',hg,hx,get_of hx,h1,h2,h3]
    ·simp -implicitDefEqProofs [parD,hi,hi',hg,hx,get_of hx,h1,h2]
  ·have hx:l[i]? = .none:=List.getElem?_eq_none (by omega)
   have hi':¬(i:Int)<l.length:=by omega
   simp -implicitDefEqProofs [parD,hi,hi',hx]
section
variable (o:Option (List Int))
@[simp high] theorem par_unf (H:List Ob):unf (parD o) H=(parD o,H):=by cases o<;>rfl
@[simp high] theorem par_tree:noTree (parD o)=true:=by cases o<;>simp [parD,noTree]
@[simp high] theorem par_cell:isCellD (parD o)=true:=by cases o<;>rfl
@[simp high] theorem par_ro:isRO (parD o)=true:=by cases o<;>simp [parD]
@[simp high] theorem par_cells:(parD o).cells=[parD o]:=by cases o<;>rfl
@[simp high] theorem par_roD:roD (parD o)=some (parD o):=by cases o<;>simp [parD]
@[simp high] theorem par_rof (b:Bool) (H:List Ob):rof b (parD o) H=some (parD o,H):=by cases o<;>simp [parD]
@[simp high] theorem par_ids:idsD (parD o)=[]:=by cases o<;>simp [parD]
@[simp high] theorem par_eq:eqD (parD o) (parD o)=true:=by cases o<;>simp [parD]
end
def from1I (l:List Int) (i:Nat):Int:=argI l i 1 1 65535
theorem from1I_b (l:List Int) (i:Nat):1≤from1I l i∧from1I l i≤65535:=argI_b l i 1 1 65535 (by omega)
theorem sp411 (k:Nat) (e:Ev) (i:Nat):evFun (clOf (modsR tab (k+1)) 3) s411 [evD e,I i]=some (I (from1I e.par i),[]):=by
 have w:=fun q=>sp381 q e i 1 1 65535
 have e1:from1I e.par i=argI e.par i 1 1 65535:=rfl
 rw [e1]
 generalize argI e.par i 1 1 65535=n at *
 rw [evFun_evB rfl]
 unfold s411
 simp -implicitDefEqProofs [cw381,w]
theorem sp411_0 (k:Nat) (e:Ev):evFun (clOf (modsR tab (k+1)) 3) s411 [evD e,I 0]=some (I (from1I e.par 0),[]):=sp411 k e 0
theorem sp411_1 (k:Nat) (e:Ev):evFun (clOf (modsR tab (k+1)) 3) s411 [evD e,I 1]=some (I (from1I e.par 1),[]):=sp411 k e 1
theorem sp381_0 (k:Nat) (e:Ev) (none lo hi:Int):evFun (clOf (modsR tab k) 3) s381 [evD e,I 0,I none,I lo,I hi]=some (I (argI e.par 0 none lo hi),[]):=sp381 k e 0 none lo hi
theorem sp381_1 (k:Nat) (e:Ev) (none lo hi:Int):evFun (clOf (modsR tab k) 3) s381 [evD e,I 1,I none,I lo,I hi]=some (I (argI e.par 1 none lo hi),[]):=sp381 k e 1 none lo hi
theorem sp404 (k:Nat) (s:Sc) (o:OkS s) (c:Int):evFun (clOf (modsR tab (k+3)) 3) s404 [scD s,I c]=some (scD (atS s s.row c),[]):=by
 have w:=fun q=>sp122 q s o s.row c
 generalize atS s s.row c=S' at *
 rw [evFun_evB rfl]
 unfold s404
 simp -implicitDefEqProofs [cw122,w]
def setM (s:Sc) (n:Int) (on:Bool):Sc :=
 if n=1 then {s with keys:=on} else if n=6 then homeS {s with orig:=on} else if n=7 then {s with wrap:=on,pend:=s.pend && on} else if n=25 then {s with shown:=on} else s
theorem orig_ok {s:Sc} (o:OkS s) (b:Bool):OkS {s with orig:=b}:=⟨o.g,o.h,o.w,o.row,o.col,o.top,o.bot,o.tabs,o.sh,o.ssh,o.srow,o.scol⟩
theorem setM_ok {s:Sc} (o:OkS s) (n:Int) (on:Bool):OkS (setM s n on):=by
 unfold setM
 repeat' split
 ·exact ⟨o.g,o.h,o.w,o.row,o.col,o.top,o.bot,o.tabs,o.sh,o.ssh,o.srow,o.scol⟩
 ·exact atS_ok (orig_ok o on) _ _
 ·exact ⟨o.g,o.h,o.w,o.row,o.col,o.top,o.bot,o.tabs,o.sh,o.ssh,o.srow,o.scol⟩
 ·exact ⟨o.g,o.h,o.w,o.row,o.col,o.top,o.bot,o.tabs,o.sh,o.ssh,o.srow,o.scol⟩
 ·exact o
set_option maxHeartbeats 2000000 in
theorem sp337 (k:Nat) (s:Sc) (o:OkS s) (n:Int) (on:Bool):evFun (clOf (modsR tab (k+4)) 3) s337 [scD s,I n,B on]=some (scD (setM s n on),[]):=by
 have w:=fun q=>sp370 q s o.g (by have:=o.len;omega)
 have w2:=fun q=>sp127 q _ (orig_ok o on)
 have e:setM s n on=if n=1 then {s with keys:=on} else if n=6 then homeS {s with orig:=on} else if n=7 then {s with wrap:=on,pend:=s.pend && on} else if n=25 then {s with shown:=on} else s:=rfl
 rw [e]
 clear e
 generalize homeS {s with orig:=on}=S' at *
 rw [evFun_evB rfl]
 unfold s337
 by_cases h1:n=1
 ·simp -implicitDefEqProofs [cw370,w,h1]
 by_cases h2:n=6
 ·simp -implicitDefEqProofs [cw370,w,h2,cw127,w2]
 by_cases h3:n=7
 ·cases hp:s.pend
  ·simp only [scD,scL,hp] at w ⊢
   simp -implicitDefEqProofs [cw370,w,h3,hp]
  ·simp only [scD,scL,hp] at w ⊢
   simp -implicitDefEqProofs [cw370,w,h3,hp]
 by_cases h4:n=25
 ·simp -implicitDefEqProofs [cw370,w,h4]
 simp -implicitDefEqProofs [cw370,w,h1,h2,h3,h4]
def desigS (s:Sc) (inter final:Int):Sc :=
 if final≠48∧final≠66 then s else if inter=40 then {s with s0:=final} else if inter=41 then {s with s1:=final} else s
theorem sp406 (k:Nat) (s:Sc) (it fi:Int):evFun (clOf (modsR tab k) 3) s406 [scD s,U it,U fi]=some (scD (desigS s it fi),[]):=by
 rw [evFun_evB rfl]
 unfold s406 desigS
 by_cases h:fi≠48∧fi≠66
 ·simp -implicitDefEqProofs [h.1,h.2]
 by_cases h0:fi=48
 ·by_cases h1:it=40
  ·simp -implicitDefEqProofs [h0,h1]
  by_cases h2:it=41
  ·simp -implicitDefEqProofs [h0,h1,h2]
  simp -implicitDefEqProofs [h0,h1,h2]
 have h3:fi=66:=by
  by_cases h3:fi=66
  ·exact h3
  ·exact absurd ⟨h0,h3⟩ h
 by_cases h1:it=40
 ·simp -implicitDefEqProofs [h3,h1]
 by_cases h2:it=41
 ·simp -implicitDefEqProofs [h3,h1,h2]
 simp -implicitDefEqProofs [h3,h1,h2]
def dropS (s:Sc) (what:Int):Sc:=if what=0 then {s with tabs:=dropN s.tabs (bitN s.col)} else if what=3 then {s with tabs:=0} else s
theorem sp408 (k:Nat) (s:Sc) (o:OkS s) (n:Int):evFun (clOf (modsR tab (k+2)) 3) s408 [scD s,I n]=some (scD (dropS s n),[]):=by
 have w:=fun q=>sp416 q s.tabs o.tabs s.col
 have e:dropS s n=if n=0 then {s with tabs:=dropN s.tabs (bitN s.col)} else if n=3 then {s with tabs:=0} else s:=rfl
 rw [e]
 generalize dropN s.tabs (bitN s.col)=t at *
 rw [evFun_evB rfl]
 unfold s408
 by_cases h0:n=0
 ·simp -implicitDefEqProofs [h0,cw416,w]
 by_cases h3:n=3
 ·simp -implicitDefEqProofs [h3]
 simp -implicitDefEqProofs [h0,h3]
end Go.Proofs.YtlpchliomdomdaaGreat.LgTab
namespace Go.Proofs.YtlpchliomdomdaaGreat.LgTab
open Go Lg
set_option linter.unusedVariables false
set_option linter.unusedSimpArgs false
set_option maxRecDepth 8000
def drawL:List Int:=[9670,9618,9225,9228,9229,9226,176,177,9252,9227,9496,9488,9484,9492,9532,9146,9147,9472,9148,9149,9500,9508,9524,9516,9474,8804,8805,960,8800,163,183]
def drawD:List D:=drawL.map fun n=>R n
theorem sp115 (k:Nat):evFun (clOf (modsR tab k) 3) s115 []=some (.osl true 1 drawD,[]):=by
 rw [evFun_evB rfl]
 unfold s115
 simp -implicitDefEqProofs [drawD,drawL]
def drawI (b:Int):Int:=if b=95 then 32 else if 96≤b∧b<127 then drawL.getD (b-96).toNat 0 else b
theorem drawL_get (i:Nat) (h:i<31):∃ a,drawL[i]? = some a:=⟨_,List.getElem?_eq_getElem (by simpa [drawL] using h)⟩
theorem sp114 (k:Nat) (b:Int) (hb:0≤b∧b≤255):evFun (clOf (modsR tab (k+1)) 3) s114 [U b]=some (R (drawI b),[]):=by
 have w:=fun q=>sp115 q
 have hl:drawD.length=31:=rfl
 have hpl:plains drawD=true:=rfl
 have hro:isROs drawD=true:=rfl
 have e64:IntKind.i64.wrap b=b:=wrap_id _ (by omega) (by omega)
 have e32:IntKind.i32.wrap b=b:=wrap_i32 _ (by omega) (by omega)
 rw [evFun_evB rfl]
 unfold s114 drawI
 by_cases h1:b=95
 ·generalize drawD=L at *
  simp -implicitDefEqProofs [cw115,w,hpl,hro,h1]
 by_cases h2:96≤b
 ·by_cases h3:b<127
  ·obtain ⟨i,hi⟩:∃ i:Nat,b=96+(i:Int):=⟨(b-96).toNat,by omega⟩
   obtain ⟨a,ha⟩:=drawL_get i (by omega)
   have hd:drawD[i]? = some (R a):=by simp [drawD,ha]
   have hd2:=get_of hd
   have h5:IntKind.u8.wrap (b-96)=(i:Int):=by rw [wrap_u8 _ (by omega) (by omega)];omega
   have h6:binD .sub (U b) (U 96)=some (U i):=by simp [binD,binI,h5]
   have h7:(b-96).toNat=i:=by omega
   have h8:i<31:=by omega
   generalize drawD=L at *
   clear hi
   simp -implicitDefEqProofs [cw115,w,hpl,hro,h1,h2,h3,hl,e64,wr_id ((96:Int)+31) (by omega) (by omega),wr_id ((127:Int)) (by omega) (by omega),h6,hd,hd2,h7,h8,ha]
  ·generalize drawD=L at *
   simp -implicitDefEqProofs [cw115,w,hpl,hro,h1,h2,h3,hl,e64,e32,wr_id ((96:Int)+31) (by omega) (by omega),wr_id ((127:Int)) (by omega) (by omega)]
 ·generalize drawD=L at *
  simp -implicitDefEqProofs [cw115,w,hpl,hro,h1,h2,hl,e64,e32,wr_id ((96:Int)+31) (by omega) (by omega),wr_id ((127:Int)) (by omega) (by omega)]
def setOf (s:Sc):Int:=if s.sh=0 then s.s0 else s.s1
def drawnI (s:Sc) (x:Int):Int:=if setOf s=48∧95≤x∧x≤126 then drawI x else x
theorem sp407 (k:Nat) (s:Sc) (o:OkS s) (x:Int):evFun (clOf (modsR tab (k+2)) 3) s407 [scD s,R x]=some (R (drawnI s x),[]):=by
 rw [evFun_evB rfl]
 unfold s407 drawnI setOf
 obtain ⟨g,row,col,pend,top,bot,p,tabs,s0,s1,sh,wrap,orig,shown,keys,pad,sv⟩:=s
 have hs:sh=0∨sh=1:=o.sh
 by_cases h2:95≤x
 ·by_cases h3:x≤126
  ·have w:=fun q=>sp114 q x (by omega)
   have e8:IntKind.u8.wrap x=x:=wrap_u8 _ (by omega) (by omega)
   generalize drawI x=y at *
   rcases hs with h | h
   ·subst h
    by_cases h1:s0=48
    ·simp -implicitDefEqProofs [h1,h2,h3,cw114,w,e8]
    ·simp -implicitDefEqProofs [h1,h2,h3]
   ·subst h
    by_cases h1:s1=48
    ·simp -implicitDefEqProofs [h1,h2,h3,cw114,w,e8]
    ·simp -implicitDefEqProofs [h1,h2,h3]
  ·rcases hs with h | h
   ·subst h
    by_cases h1:s0=48
    ·simp -implicitDefEqProofs [h1,h2,h3]
    ·simp -implicitDefEqProofs [h1,h2,h3]
   ·subst h
    by_cases h1:s1=48
    ·simp -implicitDefEqProofs [h1,h2,h3]
    ·simp -implicitDefEqProofs [h1,h2,h3]
 ·rcases hs with h | h
  ·subst h
   by_cases h1:s0=48
   ·simp -implicitDefEqProofs [h1,h2]
   ·simp -implicitDefEqProofs [h1,h2]
  ·subst h
   by_cases h1:s1=48
   ·simp -implicitDefEqProofs [h1,h2]
   ·simp -implicitDefEqProofs [h1,h2]
def execS (s:Sc) (b:Int):Sc :=
 if b=8 then atS s s.row (s.col-1)
 else if b=9 then atS s s.row (nextT s.tabs s.col s.g.w)
 else if 10≤b∧b≤12 then feedS s
 else if b=13 then atS s s.row 0
 else if b=14 then {s with sh:=1}
 else if b=15 then {s with sh:=0} else s
set_option maxHeartbeats 2000000 in
theorem sp410 (k:Nat) (s:Sc) (o:OkS s) (b:Int):evFun (clOf (modsR tab (k+7)) 3) s410 [scD s,U b]=some (scD (execS s b),[]):=by
 have h1:=o.h
 have h2:=o.w
 have h3:=o.col
 have h4:=o.g
 by_cases c1:b=8
 ·have e:execS s b=atS s s.row (s.col-1):=by unfold execS;rw [if_pos c1]
  have w:=fun q=>sp404 q s o (s.col-1)
  rw [e]
  generalize atS s s.row (s.col-1)=S' at *
  rw [evFun_evB rfl]
  unfold s410
  simp -implicitDefEqProofs [c1,cw404,w,wr_id (s.col-1) (by omega) (by omega)]
 by_cases c2:b=9
 ·have e:execS s b=atS s s.row (nextT s.tabs s.col s.g.w):=by unfold execS;rw [if_neg c1,if_pos c2]
  have w:=fun q n=>sp404 q s o n
  have w2:=fun q=>sp420 q s.tabs o.tabs s.col s.g.w (by omega)
  rw [e]
  generalize nextT s.tabs s.col s.g.w=n at *
  have w3:=fun q=>w q n
  clear w
  generalize atS s s.row n=S' at *
  rw [evFun_evB rfl]
  unfold s410
  simp -implicitDefEqProofs [c2,cw404,w3,cr420,w2]
 by_cases c3:10≤b∧b≤12
 ·have e:execS s b=feedS s:=by unfold execS;rw [if_neg c1,if_neg c2,if_pos c3]
  have w:=fun q=>sp125 q s o
  rw [e]
  generalize feedS s=S' at *
  rw [evFun_evB rfl]
  unfold s410
  simp -implicitDefEqProofs [c1,c2,c3.1,c3.2,cw125,w]
 by_cases c4:b=13
 ·have e:execS s b=atS s s.row 0:=by unfold execS;rw [if_neg c1,if_neg c2,if_neg c3,if_pos c4]
  have w:=fun q=>sp404 q s o 0
  rw [e]
  generalize atS s s.row 0=S' at *
  rw [evFun_evB rfl]
  unfold s410
  simp -implicitDefEqProofs [c4,cw404,w]
 by_cases c5:b=14
 ·have e:execS s b={s with sh:=1}:=by unfold execS;rw [if_neg c1,if_neg c2,if_neg c3,if_neg c4,if_pos c5]
  rw [e,evFun_evB rfl]
  unfold s410
  simp -implicitDefEqProofs [c5]
 by_cases c6:b=15
 ·have e:execS s b={s with sh:=0}:=by unfold execS;rw [if_neg c1,if_neg c2,if_neg c3,if_neg c4,if_neg c5,if_pos c6]
  rw [e,evFun_evB rfl]
  unfold s410
  simp -implicitDefEqProofs [c6]
 have e:execS s b=s:=by unfold execS;rw [if_neg c1,if_neg c2,if_neg c3,if_neg c4,if_neg c5,if_neg c6]
 rw [e,evFun_evB rfl]
 unfold s410
 by_cases c7:10≤b
 ·have c8:¬b≤12:=fun h=>c3 ⟨c7,h⟩
  simp -implicitDefEqProofs [c1,c2,c4,c5,c6,c7,c8]
 ·simp -implicitDefEqProofs [c1,c2,c4,c5,c6,c7]
end Go.Proofs.YtlpchliomdomdaaGreat.LgTab
namespace Go.Proofs.YtlpchliomdomdaaGreat.LgTab
open Go Lg
set_option linter.unusedVariables false
set_option linter.unusedSimpArgs false
set_option maxRecDepth 8000
def escS (s:Sc) (e:Ev):Sc :=
 if e.it≠0 then desigS s e.it e.fi
 else if e.fi=55 then saveS s
 else if e.fi=56 then restS s
 else if e.fi=68 then feedS s
 else if e.fi=69 then feedS (atS s s.row 0)
 else if e.fi=77 then backS s
 else if e.fi=72 then {s with tabs:=s.tabs ||| bitN s.col}
 else if e.fi=99 then newS s.g.h s.g.w
 else if e.fi=61 then {s with pad:=true}
 else if e.fi=62 then {s with pad:=false} else s
set_option maxHeartbeats 4000000 in
theorem sp409 (k:Nat) (s:Sc) (o:OkS s) (e:Ev):evFun (clOf (modsR tab (k+7)) 3) s409 [scD s,evD e]=some (scD (escS s e),[]):=by
 have hh:=o.h
 have hw:=o.w
 have hg:=o.g
 obtain ⟨ek,er,ep,ei,ef,ps,et⟩:=e
 by_cases c0:ei=0
 case neg =>
  have ee:escS s ⟨ek,er,ep,ei,ef,ps,et⟩=desigS s ei ef:=by unfold escS;rw [if_pos c0]
  have w:=fun q=>sp406 q s ei ef
  rw [ee]
  generalize desigS s ei ef=S' at *
  rw [evFun_evB rfl]
  unfold s409
  simp -implicitDefEqProofs [c0,cw406,w]
 subst c0
 by_cases c1:ef=55
 ·have ee:escS s ⟨ek,er,ep,0,ef,ps,et⟩=saveS s:=by simp [escS,c1]
  have w:=fun q=>sp129 q s o
  rw [ee]
  generalize saveS s=S' at *
  rw [evFun_evB rfl]
  unfold s409
  simp -implicitDefEqProofs [c1,cw129,w]
 by_cases c2:ef=56
 ·have ee:escS s ⟨ek,er,ep,0,ef,ps,et⟩=restS s:=by simp [escS,c2]
  have w:=fun q=>sp128 q s o
  rw [ee]
  generalize restS s=S' at *
  rw [evFun_evB rfl]
  unfold s409
  simp -implicitDefEqProofs [c2,cw128,w]
 by_cases c3:ef=68
 ·have ee:escS s ⟨ek,er,ep,0,ef,ps,et⟩=feedS s:=by simp [escS,c3]
  have w:=fun q=>sp125 q s o
  rw [ee]
  generalize feedS s=S' at *
  rw [evFun_evB rfl]
  unfold s409
  simp -implicitDefEqProofs [c3,cw125,w]
 by_cases c4:ef=69
 ·have ee:escS s ⟨ek,er,ep,0,ef,ps,et⟩=feedS (atS s s.row 0):=by simp [escS,c4]
  have w:=fun q=>sp404 q s o 0
  have w2:=fun q=>sp125 q _ (atS_ok o s.row 0)
  rw [ee]
  generalize feedS (atS s s.row 0)=S' at *
  generalize atS s s.row 0=S2 at *
  rw [evFun_evB rfl]
  unfold s409
  simp -implicitDefEqProofs [c4,cw125,w,cw404,w2]
 by_cases c5:ef=77
 ·have ee:escS s ⟨ek,er,ep,0,ef,ps,et⟩=backS s:=by simp [escS,c5]
  have w:=fun q=>sp123 q s o
  rw [ee]
  generalize backS s=S' at *
  rw [evFun_evB rfl]
  unfold s409
  simp -implicitDefEqProofs [c5,cw123,w]
 by_cases c6:ef=72
 ·have ee:escS s ⟨ek,er,ep,0,ef,ps,et⟩={s with tabs:=s.tabs ||| bitN s.col}:=by simp [escS,c6]
  have w:=fun q=>sp421 q s.tabs o.tabs s.col
  rw [ee]
  generalize s.tabs ||| bitN s.col=t at *
  rw [evFun_evB rfl]
  unfold s409
  simp -implicitDefEqProofs [c6,cw421,w]
 by_cases c7:ef=99
 ·have ee:escS s ⟨ek,er,ep,0,ef,ps,et⟩=newS s.g.h s.g.w:=by simp [escS,c7]
  have w:=fun q=>sp372 q s.g.h s.g.w ⟨hg.1,hh⟩ ⟨hg.2.2.1,hw⟩
  rw [ee]
  generalize newS s.g.h s.g.w=S' at *
  rw [evFun_evB rfl]
  unfold s409
  simp -implicitDefEqProofs [c7,cw372,w]
 by_cases c8:ef=61
 ·have ee:escS s ⟨ek,er,ep,0,ef,ps,et⟩={s with pad:=true}:=by simp [escS,c8]
  rw [ee,evFun_evB rfl]
  unfold s409
  simp -implicitDefEqProofs [c8]
 by_cases c9:ef=62
 ·have ee:escS s ⟨ek,er,ep,0,ef,ps,et⟩={s with pad:=false}:=by simp [escS,c9]
  rw [ee,evFun_evB rfl]
  unfold s409
  simp -implicitDefEqProofs [c9]
 have ee:escS s ⟨ek,er,ep,0,ef,ps,et⟩=s:=by simp [escS,c1,c2,c3,c4,c5,c6,c7,c8,c9]
 rw [ee,evFun_evB rfl]
 unfold s409
 simp -implicitDefEqProofs [c1,c2,c3,c4,c5,c6,c7,c8,c9]
def moveS (s:Sc) (e:Ev):Sc :=
 let n:=from1I e.par 0
 if e.fi=65 then upS s n
 else if e.fi=66 then downS s n
 else if e.fi=67 then atS s s.row (s.col+n)
 else if e.fi=68 then atS s s.row (s.col-n)
 else if e.fi=69 then atS (downS s n) (downS s n).row 0
 else if e.fi=70 then atS (upS s n) (upS s n).row 0
 else if e.fi=71∨e.fi=96 then atS s s.row (n-1)
 else if e.fi=100 then goS s (n-1) s.col
 else goS s (n-1) (from1I e.par 1-1)
set_option maxHeartbeats 4000000 in
theorem sp413 (k:Nat) (s:Sc) (o:OkS s) (e:Ev):evFun (clOf (modsR tab (k+4)) 3) s413 [scD s,evD e]=some (scD (moveS s e),[]):=by
 have hh:=o.h
 have hw:=o.w
 have hc:=o.col
 have w0:=fun q=>sp411_0 q e
 have hn:=from1I_b e.par 0
 obtain ⟨n,en⟩:∃ n,n=from1I e.par 0:=⟨_,rfl⟩
 rw [←en] at w0 hn
 by_cases c1:e.fi=65
 ·have ee:moveS s e=upS s n:=by unfold moveS;rw [←en];simp [c1]
  have w:=fun q=>sp130 q s o n (by omega)
  rw [ee]
  generalize upS s n=S' at *
  rw [evFun_evB rfl]
  unfold s413
  simp -implicitDefEqProofs [eq_true c1,cw411,w0,cw130,w]
 by_cases c2:e.fi=66
 ·have ee:moveS s e=downS s n:=by unfold moveS;rw [←en];simp [c2]
  have w:=fun q=>sp124 q s o n (by omega)
  rw [ee]
  generalize downS s n=S' at *
  rw [evFun_evB rfl]
  unfold s413
  simp -implicitDefEqProofs [c1,eq_true c2,cw411,w0,cw124,w]
 by_cases c3:e.fi=67
 ·have ee:moveS s e=atS s s.row (s.col+n):=by unfold moveS;rw [←en];simp [c3]
  have w:=fun q=>sp404 q s o (s.col+n)
  rw [ee]
  generalize atS s s.row (s.col+n)=S' at *
  rw [evFun_evB rfl]
  unfold s413
  simp -implicitDefEqProofs [c1,c2,eq_true c3,cw411,w0,cw404,w,wr_id (s.col+n) (by omega) (by omega)]
 by_cases c4:e.fi=68
 ·have ee:moveS s e=atS s s.row (s.col-n):=by unfold moveS;rw [←en];simp [c4]
  have w:=fun q=>sp404 q s o (s.col-n)
  rw [ee]
  generalize atS s s.row (s.col-n)=S' at *
  rw [evFun_evB rfl]
  unfold s413
  simp -implicitDefEqProofs [c1,c2,c3,eq_true c4,cw411,w0,cw404,w,wr_id (s.col-n) (by omega) (by omega)]
 by_cases c5:e.fi=69
 ·have ee:moveS s e=atS (downS s n) (downS s n).row 0:=by unfold moveS;rw [←en];simp [c5]
  have w:=fun q=>sp124 q s o n (by omega)
  have w2:=fun q=>sp404 q (downS s n) (atS_ok o _ _) 0
  rw [ee]
  generalize atS (downS s n) (downS s n).row 0=S' at *
  generalize downS s n=S2 at *
  rw [evFun_evB rfl]
  unfold s413
  simp -implicitDefEqProofs [c1,c2,c3,c4,eq_true c5,cw411,w0,cw124,w,cw404,w2]
 by_cases c6:e.fi=70
 ·have ee:moveS s e=atS (upS s n) (upS s n).row 0:=by unfold moveS;rw [←en];simp [c6]
  have w:=fun q=>sp130 q s o n (by omega)
  have w2:=fun q=>sp404 q (upS s n) (atS_ok o _ _) 0
  rw [ee]
  generalize atS (upS s n) (upS s n).row 0=S' at *
  generalize upS s n=S2 at *
  rw [evFun_evB rfl]
  unfold s413
  simp -implicitDefEqProofs [c1,c2,c3,c4,c5,eq_true c6,cw411,w0,cw130,w,cw404,w2]
 by_cases c7:e.fi=71
 ·have ee:moveS s e=atS s s.row (n-1):=by unfold moveS;rw [←en];simp [c7]
  have w:=fun q=>sp404 q s o (n-1)
  rw [ee]
  generalize atS s s.row (n-1)=S' at *
  rw [evFun_evB rfl]
  unfold s413
  simp -implicitDefEqProofs [c1,c2,c3,c4,c5,c6,eq_true c7,cw411,w0,cw404,w,wr_id (n-1) (by omega) (by omega)]
 by_cases c8:e.fi=96
 ·have ee:moveS s e=atS s s.row (n-1):=by unfold moveS;rw [←en];simp [c8]
  have w:=fun q=>sp404 q s o (n-1)
  rw [ee]
  generalize atS s s.row (n-1)=S' at *
  rw [evFun_evB rfl]
  unfold s413
  simp -implicitDefEqProofs [c1,c2,c3,c4,c5,c6,c7,eq_true c8,cw411,w0,cw404,w,wr_id (n-1) (by omega) (by omega)]
 by_cases c9:e.fi=100
 ·have ee:moveS s e=goS s (n-1) s.col:=by unfold moveS;rw [←en];simp [c9]
  have w:=fun q=>sp126 q s o (n-1) s.col (by omega)
  rw [ee]
  generalize goS s (n-1) s.col=S' at *
  rw [evFun_evB rfl]
  unfold s413
  simp -implicitDefEqProofs [c1,c2,c3,c4,c5,c6,c7,c8,eq_true c9,cw411,w0,cw126,w,wr_id (n-1) (by omega) (by omega)]
 have ee:moveS s e=goS s (n-1) (from1I e.par 1-1):=by unfold moveS;rw [←en];simp [c1,c2,c3,c4,c5,c6,c7,c8,c9]
 have w1:=fun q=>sp411_1 q e
 have hn1:=from1I_b e.par 1
 have w:=fun q=>sp126 q s o (n-1) (from1I e.par 1-1) (by omega)
 rw [ee]
 generalize goS s (n-1) (from1I e.par 1-1)=S' at *
 generalize from1I e.par 1=m at *
 rw [evFun_evB rfl]
 unfold s413
 simp -implicitDefEqProofs [c1,c2,c3,c4,c5,c6,c7,c8,c9,cw411,w0,cw126,w,wr_id (n-1) (by omega) (by omega),wr_id (m-1) (by omega) (by omega),w1,cr411]
end Go.Proofs.YtlpchliomdomdaaGreat.LgTab
