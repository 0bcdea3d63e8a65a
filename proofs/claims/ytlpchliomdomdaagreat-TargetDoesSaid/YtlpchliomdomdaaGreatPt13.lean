import Derived.Test.YtlpchliomdomdaaGreatPt12
namespace Go.Proofs.YtlpchliomdomdaaGreat.LgTab
open Go Lg
set_option linter.unusedVariables false
set_option linter.unusedSimpArgs false
set_option maxRecDepth 8000
structure OkS (s:Sc):Prop where
 g:OkG s.g
 h:s.g.h≤40
 w:s.g.w≤60
 row:0≤s.row∧s.row<s.g.h
 col:0≤s.col∧s.col<s.g.w
 top:0≤s.top∧s.top≤s.bot
 bot:s.bot<s.g.h
 tabs:s.tabs<2 ^ 64
 sh:s.sh=0∨s.sh=1
 ssh:s.sv.sh=0∨s.sv.sh=1
 srow:0≤s.sv.r∧s.sv.r<s.g.h
 scol:0≤s.sv.c∧s.sv.c<s.g.w
theorem OkS.len {s:Sc} (o:OkS s):s.g.cells.length≤2400:=by
 rw [o.g.2.2.2.2]
 exact Nat.mul_le_mul o.h o.w
theorem sp370 (k:Nat) (s:Sc) (o:OkG s.g) (hl:s.g.cells.length≤100000):evFun (clOf (modsR tab (k+1)) 3) s370 [scD s]=some (scD s,[]):=by
 have w:=fun q=>sp451 q s.g.cells o.ne hl
 have h0:=o.ne
 have tk:s.g.cells.take s.g.cells.length=s.g.cells:=List.take_of_length_le (by omega)
 rw [evFun_evB rfl]
 unfold s370
 simp -implicitDefEqProofs [cw451,w,h0,tk]
def fillP (s:Sc):Pn:=⟨-1,s.p.b,0⟩
theorem sp371 (k:Nat) (s:Sc):evFun (clOf (modsR tab k) 3) s371 [scD s]=some (pnD (fillP s),[]):=by
 rw [evFun_evB rfl]
 unfold s371
 simp -implicitDefEqProofs [fillP]
def newS (h w:Nat):Sc:=⟨newG h w plainP,0,0,false,0,(h:Int)-1,plainP,newT w,66,66,0,true,false,true,false,false,⟨0,0,plainP,66,66,0,false⟩⟩
set_option maxHeartbeats 2000000 in
theorem sp372 (k:Nat) (h w:Nat) (h0:1≤h∧h≤40) (h1:1≤w∧w≤60):evFun (clOf (modsR tab (k+4)) 3) s372 [I h,I w]=some (scD (newS h w),[]):=by
 have w1:=fun q=>sp151 q h w h0 h1 plainP
 have w2:=fun q=>sp107 q
 have w3:=fun q=>sp419 q w (by omega)
 have hc:(newG h w plainP).h=h:=rfl
 have hd:(newG h w plainP).w=w:=rfl
 have tk:(newG h w plainP).cells.take (newG h w plainP).cells.length=(newG h w plainP).cells:=List.take_of_length_le (by omega)
 unfold newS
 generalize newT w=t at *
 generalize newG h w plainP=G at *
 simp only [plainP] at w1 w2 ⊢
 rw [evFun_evB rfl]
 unfold s372
 simp -implicitDefEqProofs [cw151,cw107,cr107,cr419,w1,w2,w3,hc,hd,tk,wr_id ((h:Int)-1) (by omega) (by omega)]
def nearI (n all:Int):Int:=mxI 0 (mnI n (all-1))
theorem nearI_b (n:Int) {all:Int} (h:1≤all):0≤nearI n all∧nearI n all<all:=by
 unfold nearI mxI mnI
 repeat' split
 all_goals omega
theorem nearI_id {n all:Int} (h0:0≤n) (h:n<all):nearI n all=n:=by
 unfold nearI mxI mnI
 repeat' split
 all_goals omega
def atS (s:Sc) (r c:Int):Sc:={s with row:=nearI r s.g.h,col:=nearI c s.g.w,pend:=false}
theorem atS_ok {s:Sc} (o:OkS s) (r c:Int):OkS (atS s r c) :=
 ⟨o.g,o.h,o.w,nearI_b r (by have:=o.g.1;omega),nearI_b c (by have:=o.g.2.2.1;omega),o.top,o.bot,o.tabs,o.sh,o.ssh,o.srow,o.scol⟩
theorem sp122 (k:Nat) (s:Sc) (o:OkS s) (r c:Int):evFun (clOf (modsR tab (k+2)) 3) s122 [scD s,I r,I c]=some (scD (atS s r c),[]):=by
 have w:=fun q=>sp370 q s o.g (by have:=o.len;omega)
 have h1:=o.h
 have h2:=o.w
 have h3:=o.g.1
 have h4:=o.g.2.2.1
 rw [evFun_evB rfl]
 unfold s122
 simp -implicitDefEqProofs [cw370,w,atS,nearI,wr_id ((s.g.h:Int)-1) (by omega) (by omega),wr_id ((s.g.w:Int)-1) (by omega) (by omega)]
def moveG (s:Sc) (t b:Int) (n:Int):Sc:={s with g:=shG s.g t.toNat b.toNat n (fillP s)}
theorem moveG_dim {s:Sc} (o:OkS s) {t b:Int} (ht:0≤t) (hb:t≤b) (hb2:b<s.g.h) (n:Int) (p:Pn):OkG (shG s.g t.toNat b.toNat n p)∧(shG s.g t.toNat b.toNat n p).h=s.g.h∧(shG s.g t.toNat b.toNat n p).w=s.g.w :=
 have:=shTo_ok (top:=t.toNat) (bot:=b.toNat) o.g (by omega) n p (b.toNat+1-t.toNat) (by omega)
 ⟨this.1,this.2.1,this.2.2.1⟩
theorem moveG_ok {s:Sc} (o:OkS s) {t b:Int} (ht:0≤t) (hb:t≤b) (hb2:b<s.g.h) (n:Int):OkS (moveG s t b n):=by
 obtain ⟨a,e1,e2⟩:=moveG_dim o ht hb hb2 n (fillP s)
 exact ⟨a,by rw [show (moveG s t b n).g.h=_ from e1];exact o.h,by rw [show (moveG s t b n).g.w=_ from e2];exact o.w,by rw [show (moveG s t b n).g.h=_ from e1];exact o.row,by rw [show (moveG s t b n).g.w=_ from e2];exact o.col,o.top,by rw [show (moveG s t b n).g.h=_ from e1];exact o.bot,o.tabs,o.sh,o.ssh,by rw [show (moveG s t b n).g.h=_ from e1];exact o.srow,by rw [show (moveG s t b n).g.w=_ from e2];exact o.scol⟩
theorem pend_ok {s:Sc} (o:OkS s):OkS {s with pend:=false}:=⟨o.g,o.h,o.w,o.row,o.col,o.top,o.bot,o.tabs,o.sh,o.ssh,o.srow,o.scol⟩
def feedS (s:Sc):Sc:=if s.row=s.bot then {moveG s s.top s.bot 1 with pend:=false} else atS s (s.row+1) s.col
def backS (s:Sc):Sc:=if s.row=s.top then {moveG s s.top s.bot (-1) with pend:=false} else atS s (s.row-1) s.col
theorem feedS_ok {s:Sc} (o:OkS s):OkS (feedS s):=by
 unfold feedS
 split
 ·exact pend_ok (moveG_ok o o.top.1 o.top.2 o.bot 1)
 ·exact atS_ok o _ _
theorem backS_ok {s:Sc} (o:OkS s):OkS (backS s):=by
 unfold backS
 split
 ·exact pend_ok (moveG_ok o o.top.1 o.top.2 o.bot (-1))
 ·exact atS_ok o _ _
theorem far1:farI 1=1:=by unfold farI mxI mnI;(repeat' split);all_goals omega
set_option maxHeartbeats 2000000 in
theorem sp125 (k:Nat) (s:Sc) (o:OkS s):evFun (clOf (modsR tab (k+6)) 3) s125 [scD s]=some (scD (feedS s),[]):=by
 have w:=fun q=>sp371 q s
 have hl:=o.len
 have ht:=o.top
 have hb:=o.bot
 have hh:=o.h
 have hr:=o.row
 by_cases h:s.row=s.bot
 ·have e:feedS s={s with g:=shG s.g s.top.toNat s.bot.toNat 1 (fillP s),pend:=false}:=by unfold feedS;rw [if_pos h];rfl
  rw [e]
  have w1:=fun q=>sp142 q s.g o.g (by omega) s.top.toNat s.bot.toNat (by omega) (by omega) 1 (fillP s)
  rw [far1,Int.toNat_of_nonneg (by omega),Int.toNat_of_nonneg (by omega)] at w1
  generalize shG s.g s.top.toNat s.bot.toNat 1 (fillP s)=G at *
  rw [evFun_evB rfl]
  unfold s125
  simp -implicitDefEqProofs [eq_true h,cw371,cr371,w,cw142,w1]
 ·have e:feedS s=atS s (s.row+1) s.col:=by unfold feedS;rw [if_neg h]
  rw [e]
  have w1:=fun q=>sp122 q s o (s.row+1) s.col
  generalize atS s (s.row+1) s.col=S' at *
  rw [evFun_evB rfl]
  unfold s125
  simp -implicitDefEqProofs [h,cw122,w1,wr_id (s.row+1) (by omega) (by omega)]
set_option maxHeartbeats 2000000 in
theorem sp123 (k:Nat) (s:Sc) (o:OkS s):evFun (clOf (modsR tab (k+6)) 3) s123 [scD s]=some (scD (backS s),[]):=by
 have w:=fun q=>sp371 q s
 have hl:=o.len
 have ht:=o.top
 have hb:=o.bot
 have hh:=o.h
 have hr:=o.row
 by_cases h:s.row=s.top
 ·have e:backS s={s with g:=shG s.g s.top.toNat s.bot.toNat (-1) (fillP s),pend:=false}:=by unfold backS;rw [if_pos h];rfl
  rw [e]
  have w1:=fun q=>sp138 q s.g o.g (by omega) s.top.toNat s.bot.toNat (by omega) (by omega) 1 (fillP s)
  rw [far1,Int.toNat_of_nonneg (by omega),Int.toNat_of_nonneg (by omega)] at w1
  generalize shG s.g s.top.toNat s.bot.toNat (-1) (fillP s)=G at *
  rw [evFun_evB rfl]
  unfold s123
  simp -implicitDefEqProofs [eq_true h,cw371,cr371,w,cw138,w1]
 ·have e:backS s=atS s (s.row-1) s.col:=by unfold backS;rw [if_neg h]
  rw [e]
  have w1:=fun q=>sp122 q s o (s.row-1) s.col
  generalize atS s (s.row-1) s.col=S' at *
  rw [evFun_evB rfl]
  unfold s123
  simp -implicitDefEqProofs [h,cw122,w1,wr_id (s.row-1) (by omega) (by omega)]
def upS (s:Sc) (n:Int):Sc:=atS s (if s.top≤s.row then mxI (s.row-n) s.top else s.row-n) s.col
def downS (s:Sc) (n:Int):Sc:=atS s (if s.row≤s.bot then mnI (s.row+n) s.bot else s.row+n) s.col
def goS (s:Sc) (r c:Int):Sc:=atS s (if s.orig then mnI (s.top+r) s.bot else r) c
def homeS (s:Sc):Sc:=atS s (if s.orig then s.top else 0) 0
def saveS (s:Sc):Sc:={s with sv:=⟨s.row,s.col,s.p,s.s0,s.s1,s.sh,s.orig⟩}
def restS (s:Sc):Sc:=atS {s with p:=s.sv.p,s0:=s.sv.u0,s1:=s.sv.u1,sh:=s.sv.sh,orig:=s.sv.o} s.sv.r s.sv.c
theorem saveS_ok {s:Sc} (o:OkS s):OkS (saveS s):=⟨o.g,o.h,o.w,o.row,o.col,o.top,o.bot,o.tabs,o.sh,o.sh,o.row,o.col⟩
theorem restS_ok {s:Sc} (o:OkS s):OkS (restS s) :=
 have o2:OkS {s with p:=s.sv.p,s0:=s.sv.u0,s1:=s.sv.u1,sh:=s.sv.sh,orig:=s.sv.o}:=⟨o.g,o.h,o.w,o.row,o.col,o.top,o.bot,o.tabs,o.ssh,o.ssh,o.srow,o.scol⟩
 atS_ok o2 _ _
section
variable (k:Nat) (s:Sc) (o:OkS s)
include o
theorem sp130 (n:Int) (hn : -100000≤n∧n≤100000):evFun (clOf (modsR tab (k+3)) 3) s130 [scD s,I n]=some (scD (upS s n),[]):=by
 have hh:=o.h
 have hr:=o.row
 have ht:=o.top
 have hb:=o.bot
 have w:=fun q=>sp122 q s o (if s.top≤s.row then mxI (s.row-n) s.top else s.row-n) s.col
 have e:upS s n=atS s (if s.top≤s.row then mxI (s.row-n) s.top else s.row-n) s.col:=rfl
 rw [e]
 clear e
 by_cases h:s.top≤s.row
 ·rw [if_pos h] at w ⊢
  generalize atS s (mxI (s.row-n) s.top) s.col=S' at *
  rw [evFun_evB rfl]
  unfold s130
  simp -implicitDefEqProofs [h,cw122,w,wr_id (s.row-n) (by omega) (by omega)]
 ·rw [if_neg h] at w ⊢
  generalize atS s (s.row-n) s.col=S' at *
  rw [evFun_evB rfl]
  unfold s130
  simp -implicitDefEqProofs [h,cw122,w,wr_id (s.row-n) (by omega) (by omega)]
theorem sp124 (n:Int) (hn : -100000≤n∧n≤100000):evFun (clOf (modsR tab (k+3)) 3) s124 [scD s,I n]=some (scD (downS s n),[]):=by
 have hh:=o.h
 have hr:=o.row
 have ht:=o.top
 have hb:=o.bot
 have w:=fun q=>sp122 q s o (if s.row≤s.bot then mnI (s.row+n) s.bot else s.row+n) s.col
 have e:downS s n=atS s (if s.row≤s.bot then mnI (s.row+n) s.bot else s.row+n) s.col:=rfl
 rw [e]
 clear e
 by_cases h:s.row≤s.bot
 ·rw [if_pos h] at w ⊢
  generalize atS s (mnI (s.row+n) s.bot) s.col=S' at *
  rw [evFun_evB rfl]
  unfold s124
  simp -implicitDefEqProofs [h,cw122,w,wr_id (s.row+n) (by omega) (by omega)]
 ·rw [if_neg h] at w ⊢
  generalize atS s (s.row+n) s.col=S' at *
  rw [evFun_evB rfl]
  unfold s124
  simp -implicitDefEqProofs [h,cw122,w,wr_id (s.row+n) (by omega) (by omega)]
theorem sp126 (r c:Int) (hn : -100000≤r∧r≤100000):evFun (clOf (modsR tab (k+3)) 3) s126 [scD s,I r,I c]=some (scD (goS s r c),[]):=by
 have hh:=o.h
 have ht:=o.top
 have hb:=o.bot
 have w:=fun q=>sp122 q s o (if s.orig then mnI (s.top+r) s.bot else r) c
 have e:goS s r c=atS s (if s.orig then mnI (s.top+r) s.bot else r) c:=rfl
 rw [e]
 clear e
 by_cases h:s.orig=true
 ·rw [if_pos h] at w ⊢
  generalize atS s (mnI (s.top+r) s.bot) c=S' at *
  rw [evFun_evB rfl]
  unfold s126
  simp only [scD,scL,h] at w ⊢
  simp -implicitDefEqProofs [cw122,w,wr_id (s.top+r) (by omega) (by omega)]
 ·rw [if_neg h] at w ⊢
  rw [Bool.not_eq_true] at h
  generalize atS s r c=S' at *
  rw [evFun_evB rfl]
  unfold s126
  simp only [scD,scL,h] at w ⊢
  simp -implicitDefEqProofs [cw122,w]
theorem sp127:evFun (clOf (modsR tab (k+3)) 3) s127 [scD s]=some (scD (homeS s),[]):=by
 have w:=fun q=>sp122 q s o (if s.orig then s.top else 0) 0
 have e:homeS s=atS s (if s.orig then s.top else 0) 0:=rfl
 rw [e]
 clear e
 by_cases h:s.orig=true
 ·rw [if_pos h] at w ⊢
  generalize atS s s.top 0=S' at *
  rw [evFun_evB rfl]
  unfold s127
  simp only [scD,scL,h] at w ⊢
  simp -implicitDefEqProofs [cw122,w]
 ·rw [if_neg h] at w ⊢
  rw [Bool.not_eq_true] at h
  generalize atS s 0 0=S' at *
  rw [evFun_evB rfl]
  unfold s127
  simp only [scD,scL,h] at w ⊢
  simp -implicitDefEqProofs [cw122,w]
theorem sp129:evFun (clOf (modsR tab (k+2)) 3) s129 [scD s]=some (scD (saveS s),[]):=by
 have w:=fun q=>sp370 q s o.g (by have:=o.len;omega)
 rw [evFun_evB rfl]
 unfold s129
 simp -implicitDefEqProofs [cw370,w,saveS]
theorem sp128:evFun (clOf (modsR tab (k+3)) 3) s128 [scD s]=some (scD (restS s),[]):=by
 have o2:OkS {s with p:=s.sv.p,s0:=s.sv.u0,s1:=s.sv.u1,sh:=s.sv.sh,orig:=s.sv.o}:=⟨o.g,o.h,o.w,o.row,o.col,o.top,o.bot,o.tabs,o.ssh,o.ssh,o.srow,o.scol⟩
 have w:=fun q=>sp122 q _ o2 s.sv.r s.sv.c
 have e:restS s=atS {s with p:=s.sv.p,s0:=s.sv.u0,s1:=s.sv.u1,sh:=s.sv.sh,orig:=s.sv.o} s.sv.r s.sv.c:=rfl
 rw [e]
 generalize atS {s with p:=s.sv.p,s0:=s.sv.u0,s1:=s.sv.u1,sh:=s.sv.sh,orig:=s.sv.o} s.sv.r s.sv.c=S' at *
 rw [evFun_evB rfl]
 unfold s128
 simp -implicitDefEqProofs [cw122,w]
end
end Go.Proofs.YtlpchliomdomdaaGreat.LgTab
namespace Go.Proofs.YtlpchliomdomdaaGreat.LgTab
open Go Lg
set_option linter.unusedVariables false
set_option linter.unusedSimpArgs false
set_option maxRecDepth 8000
def within (n lo hi:Int):Bool:=decide (lo≤n) && decide (n≤hi)
theorem sp348 (k:Nat) (n lo hi:Int):evFun (clOf (modsR tab k) 3) s348 [I n,I lo,I hi]=some (B (within n lo hi),[]):=by
 rw [evFun_evB rfl]
 unfold s348 within
 by_cases h:lo≤n <;>
 simp -implicitDefEqProofs [h]
theorem sp345 (k:Nat):evFun (clOf (modsR tab k) 3) s345 []=some (.osl true 1 [I 1,I 2,I 3,I 4,I 5,I 7,I 8,I 9],[]):=by
 rw [evFun_evB rfl]
 unfold s345
 simp -implicitDefEqProofs []
def flagM (n:Int):Int:=if n=1 then 1 else if n=2 then 2 else if n=3 then 4 else if n=4 then 8 else if n=5 then 16 else if n=7 then 32 else if n=8 then 64 else if n=9 then 128 else 0
theorem sp344_no (k:Nat) (n:Int) (h1:n≠1) (h2:n≠2) (h3:n≠3) (h4:n≠4) (h5:n≠5) (h7:n≠7) (h8:n≠8) (h9:n≠9):evFun (clOf (modsR tab (k+1)) 3) s344 [I n]=some (I 0,[]):=by
 rw [evFun_evB rfl]
 unfold s344
 simp -implicitDefEqProofs [cw345,sp345]
 refine evB_for (fun i=>[I n,I 0, .sl 1 [I 1,I 2,I 3,I 4,I 5,I 7,I 8,I 9],I 8,I i]) 8 (.exit 0) [I n,I 0, .sl 1 [I 1,I 2,I 3,I 4,I 5,I 7,I 8,I 9],I 8,I 8] (by simp -implicitDefEqProofs []) (fun i hi=>?_) ?_ (by simp) (by decide) ?_
 ·have hc:i=0∨i=1∨i=2∨i=3∨i=4∨i=5∨i=6∨i=7:=by omega
  rcases hc with rfl | rfl | rfl | rfl | rfl | rfl | rfl | rfl<;>simp -implicitDefEqProofs [wr_id,h1.symm,h2.symm,h3.symm,h4.symm,h5.symm,h7.symm,h8.symm,h9.symm]
 ·simp -implicitDefEqProofs []
 ·simp -implicitDefEqProofs []
theorem sp344 (k:Nat) (n:Int):evFun (clOf (modsR tab (k+1)) 3) s344 [I n]=some (I (flagM n),[]):=by
 by_cases h1:n=1
 ·subst h1;kernel_rfl
 by_cases h2:n=2
 ·subst h2;kernel_rfl
 by_cases h3:n=3
 ·subst h3;kernel_rfl
 by_cases h4:n=4
 ·subst h4;kernel_rfl
 by_cases h5:n=5
 ·subst h5;kernel_rfl
 by_cases h7:n=7
 ·subst h7;kernel_rfl
 by_cases h8:n=8
 ·subst h8;kernel_rfl
 by_cases h9:n=9
 ·subst h9;kernel_rfl
 rw [sp344_no k n h1 h2 h3 h4 h5 h7 h8 h9]
 simp [flagM,h1,h2,h3,h4,h5,h7,h8,h9]
noncomputable def rgb (x y z:Int):Int:=orI (orI (orI 16777216 (shlI x 16)) (shlI y 8)) z
noncomputable def extM (l:List Int) (old:Int):Int×Int:=match l with
 | a :: b :: t=>if a=5 then (if within b 0 255 then b else old,2) else match t with
  | c :: d :: _=>if a=2 then (if within b 0 255 && within c 0 255 && within d 0 255 then rgb b c d else old,4) else (old,l.length)
  | _=>(old,l.length)
 | _=>(old,l.length)
theorem sp343_1 (k:Nat) (b old:Int) (t:List Int):evFun (clOf (modsR tab (k+1)) 3) s343 [.sl 1 (I 5 :: I b :: t.map I),I old]=some (.tup [I (if within b 0 255 then b else old),I 2],[]):=by
 rw [evFun_evB rfl]
 unfold s343
 have e:(2:Int)≤(t.length:Int)+1+1:=by omega
 cases hb:within b 0 255 <;>
 simp -implicitDefEqProofs [cw348,sp348,e,hb]
theorem sp343_2 (k:Nat) (b c d old:Int) (t:List Int):evFun (clOf (modsR tab (k+1)) 3) s343 [.sl 1 (I 2 :: I b :: I c :: I d :: t.map I),I old]=some (.tup [I (if within b 0 255 && within c 0 255 && within d 0 255 then rgb b c d else old),I 4],[]):=by
 rw [evFun_evB rfl]
 unfold s343 rgb
 have e:(2:Int)≤(t.length:Int)+1+1+1+1:=by omega
 have e4:(4:Int)≤(t.length:Int)+1+1+1+1:=by omega
 cases hb:within b 0 255<;>cases hc:within c 0 255<;>cases hd:within d 0 255 <;>
 simp -implicitDefEqProofs [cw348,sp348,e,e4,hb,hc,hd]
theorem sp343_n (k:Nat) (a b c d old:Int) (t:List Int) (h5:a≠5) (h2:a≠2):evFun (clOf (modsR tab (k+1)) 3) s343 [.sl 1 (I a :: I b :: I c :: I d :: t.map I),I old]=some (.tup [I old,I ((t.length:Int)+1+1+1+1)],[]):=by
 rw [evFun_evB rfl]
 unfold s343
 have e:(2:Int)≤(t.length:Int)+1+1+1+1:=by omega
 have e4:(4:Int)≤(t.length:Int)+1+1+1+1:=by omega
 simp -implicitDefEqProofs [cw348,sp348,e,e4,h5,h2]
theorem sp343 (k:Nat) (l:List Int) (old:Int):evFun (clOf (modsR tab (k+1)) 3) s343 [.sl 1 (l.map I),I old]=some (.tup [I (extM l old).1,I (extM l old).2],[]):=by
 match l with
 | [] =>
  rw [evFun_evB rfl]
  unfold s343
  simp -implicitDefEqProofs [extM]
 | [a] =>
  rw [evFun_evB rfl]
  unfold s343
  simp -implicitDefEqProofs [extM]
 | a :: b :: t =>
  by_cases h5:a=5
  ·subst h5
   simp only [List.map_cons,sp343_1,extM,if_true]
  match t with
  | [] =>
   rw [evFun_evB rfl]
   unfold s343
   simp -implicitDefEqProofs [cw348,sp348,h5,extM]
  | [c] =>
   rw [evFun_evB rfl]
   unfold s343
   simp -implicitDefEqProofs [cw348,sp348,h5,extM]
  | c :: d :: t =>
   by_cases h2:a=2
   ·subst h2
    simp only [List.map_cons,sp343_2,extM,if_true,if_neg h5]
   ·simp only [List.map_cons,sp343_n k a b c d old t h5 h2,extM,if_neg h5,if_neg h2,List.length_cons]
    rfl
noncomputable def oneM (p:Pn) (n:Int):Pn :=
 if n=0 then plainP
 else if n=22 then {p with g:=andnI p.g 3}
 else if within n 23 29 then {p with g:=andnI p.g (flagM (n-20))}
 else if within n 30 37 then {p with f:=n-30}
 else if within n 40 47 then {p with b:=n-40}
 else if within n 90 97 then {p with f:=n-82}
 else if within n 100 107 then {p with b:=n-92}
 else if n=39 then {p with f:= -1}
 else if n=49 then {p with b:= -1}
 else {p with g:=orI p.g (flagM n)}
theorem of_within {n lo hi:Int} (h:within n lo hi=true):lo≤n∧n≤hi:=by
 unfold within at h
 simpa using h
theorem sp346 (k:Nat) (p:Pn) (n:Int):evFun (clOf (modsR tab (k+2)) 3) s346 [pnD p,I n]=some (pnD (oneM p n),[]):=by
 obtain ⟨f,b,g⟩:=p
 rw [evFun_evB rfl]
 unfold s346 oneM
 by_cases h0:n=0
 ·simp -implicitDefEqProofs [cw107,sp107,h0,plainP]
 by_cases h22:n=22
 ·simp -implicitDefEqProofs [h22]
 cases h1:within n 23 29 with
 | true =>
  obtain ⟨b0,b1⟩:=of_within h1
  have e:wr (n-20)=n-20:=wr_id _ (by omega) (by omega)
  simp -implicitDefEqProofs [cw348,sp348,cr344,sp344,h0,h22,h1,e]
 | false =>
 cases h2:within n 30 37 with
 | true =>
  obtain ⟨b0,b1⟩:=of_within h2
  have e:wr (n-30)=n-30:=wr_id _ (by omega) (by omega)
  simp -implicitDefEqProofs [cw348,sp348,h0,h22,h1,h2,e]
 | false =>
 cases h3:within n 40 47 with
 | true =>
  obtain ⟨b0,b1⟩:=of_within h3
  have e:wr (n-40)=n-40:=wr_id _ (by omega) (by omega)
  simp -implicitDefEqProofs [cw348,sp348,h0,h22,h1,h2,h3,e]
 | false =>
 cases h4:within n 90 97 with
 | true =>
  obtain ⟨b0,b1⟩:=of_within h4
  have e:wr (n-90)=n-90:=wr_id _ (by omega) (by omega)
  have e2:wr (n-90+8)=n-82:=by rw [wr_id _ (by omega) (by omega)];omega
  simp -implicitDefEqProofs [cw348,sp348,h0,h22,h1,h2,h3,h4,e,e2]
 | false =>
 cases h5:within n 100 107 with
 | true =>
  obtain ⟨b0,b1⟩:=of_within h5
  have e:wr (n-100)=n-100:=wr_id _ (by omega) (by omega)
  have e2:wr (n-100+8)=n-92:=by rw [wr_id _ (by omega) (by omega)];omega
  simp -implicitDefEqProofs [cw348,sp348,h0,h22,h1,h2,h3,h4,h5,e,e2]
 | false =>
 by_cases h6:n=39
 ·simp -implicitDefEqProofs [cw348,sp348,h6,within]
 by_cases h7:n=49
 ·simp -implicitDefEqProofs [cw348,sp348,h7,within]
 simp -implicitDefEqProofs [cw348,sp348,cr344,sp344,h0,h22,h1,h2,h3,h4,h5,h6,h7]
def normI (n:Int):Int:=if n = -1 then 0 else n
theorem extM_le (l:List Int) (old:Int):0≤(extM l old).2∧(extM l old).2≤l.length:=by
 match l with
 | []=>simp [extM]
 | [a]=>simp [extM]
 | a :: b :: t =>
  by_cases h5:a=5
  ·simp [extM,h5];omega
  match t with
  | []=>simp [extM,h5]
  | [c]=>simp [extM,h5]
  | c :: d :: t =>
   by_cases h2:a=2<;>simp [extM,h5,h2]<;>omega
noncomputable def stepL (n:Int) (t:List Int) (p:Pn):Pn×Nat :=
 if n=38 then ({p with f:=(extM t p.f).1},(extM t p.f).2.toNat)
 else if n=48 then ({p with b:=(extM t p.b).1},(extM t p.b).2.toNat)
 else (oneM p n,0)
noncomputable def applyL:List Int→Pn→Pn
 | [],p=>p
 | n :: t,p=>applyL (t.drop (stepL n t p).2) (stepL n t p).1
termination_by l=>l.length
decreasing_by simp;omega
noncomputable def applyM (p:Pn) (l:List Int):Pn:=if l=[] then plainP else applyL (l.map normI) p
theorem sp340_0 (k:Nat) (p:Pn):evFun (clOf (modsR tab (k+3)) 3) s340 [pnD p, .sl 1 []]=some (pnD plainP,[]):=by
 rw [evFun_evB rfl]
 unfold s340
 simp -implicitDefEqProofs [cw107,sp107,plainP]
def normA (l:List Int) (i:Nat):List D:=(l.take i).map (fun n=>I (normI n))++List.replicate (l.length-i) (I 0)
theorem normA_len {l:List Int} {i:Nat} (h:i≤l.length):(normA l i).length=l.length:=by
 simp [normA];omega
theorem normA_get {l:List Int} {i:Nat} (h:i<l.length):(normA l i)[i]? = some (I 0):=by
 unfold normA
 rw [List.getElem?_append_right (by simp;omega)]
 simp [List.getElem?_replicate]
 omega
theorem normA_set {l:List Int} {i:Nat} {x:Int} (hx:l[i]? = some x):(normA l i).set i (I (normI x))=normA l (i+1):=by
 have h:i<l.length:=by
  rcases Nat.lt_or_ge i l.length with h | h
  ·exact h
  ·rw [List.getElem?_eq_none h] at hx;cases hx
 have e:l.length-i=(l.length-(i+1))+1:=by omega
 unfold normA
 rw [List.set_append_right (h:=by simp;omega),e,List.replicate_succ,List.take_add_one,hx]
 simp [Nat.min_eq_left (Nat.le_of_lt h)]
theorem sp340_1 (k:Nat) (p:Pn) (l:List Int) (hl:l.length*8≤140737488355328) (h0:l≠[]):evFun (clOf (modsR tab (k+3)) 3) s340 [pnD p, .sl 1 (l.map I)]=some (pnD (applyL (l.map normI) p),[]):=by
 obtain ⟨f,b,g⟩:=p
 rw [evFun_evB rfl]
 unfold s340
 have e0:¬((l.length:Int)=0):=by
  cases l with
  | nil=>exact absurd rfl h0
  | cons a t=>simp;omega
 simp -implicitDefEqProofs [e0,h0,hl]
 refine evB_for (fun i=>[.sl 1 (l.map I),I l.length,I i, .obx [I f,I b,I g], .obx [I 0,I 0,I 0], .osl true 1 (normA l i)]) l.length (.exit 0) [.sl 1 (l.map I),I l.length,I l.length, .obx [I f,I b,I g], .obx [I 0,I 0,I 0], .osl true 1 (normA l l.length)] ?_ (fun i hi=>?_) ?_ (by simp) (by unfold rounds;omega) ?_
 ·simp -implicitDefEqProofs [normA]
 ·have hx:l[i]? = some l[i]:=List.getElem?_eq_getElem hi
  have e1:=normA_len (Nat.le_of_lt hi)
  have e2:=normA_get hi
  have e3:wr ((i:Int)+1)=(i:Int)+1:=wr_id _ (by omega) (by omega)
  rw [←normA_set hx]
  by_cases hm:l[i] = -1
  ·simp -implicitDefEqProofs [hi,hx,e1,e2,e3,hm,normI]
  ·simp -implicitDefEqProofs [hi,hx,e1,e2,e3,hm,normI]
 ·have e1:=normA_len (Nat.le_refl l.length)
  simp -implicitDefEqProofs [e1]
 simp -implicitDefEqProofs []
 refine evB_run (σ:=List Int×Pn) (fun s=>[.sl 1 (s.1.map I), .obx [I s.2.f,I s.2.b,I s.2.g], .obx [I 0,I 0,I 0]]) (fun s=>s.1.length)
  (fun s=>(.exit 2,[.sl 1 [], .obx [I (applyL s.1 s.2).f,I (applyL s.1 s.2).b,I (applyL s.1 s.2).g], .obx [I 0,I 0,I 0]])) (fun s=>s.1.length≤l.length) (l.map normI,⟨f,b,g⟩) ?_ (by simp) (by simp [rounds];omega) ?_ ?_
 ·simp -implicitDefEqProofs [normA,Function.comp_def,List.take_of_length_le]
 ·rintro ⟨t,p⟩ ht
  cases t with
  | nil=>right;simp -implicitDefEqProofs [applyL]
  | cons n t =>
   left
   obtain ⟨f,b,g⟩:=p
   have ht':t.length<l.length:=by simp at ht;omega
   have e5:List.take t.length (List.map I t)=List.map I t:=List.take_of_length_le (by simp)
   have e6:∀ d,List.take (t.length-d) (List.drop d (List.map I t))=List.drop d (List.map I t):=fun d=>List.take_of_length_le (by simp)
   have c0:(0:Int)<(t.length:Int)+1:=by omega
   refine ⟨(t.drop (stepL n t ⟨f,b,g⟩).2,(stepL n t ⟨f,b,g⟩).1),?_,by simp;omega,by simp [applyL],by simp;omega⟩
   by_cases h38:n=38
   ·obtain ⟨a1,a2⟩:=extM_le t f
    have a3:(extM t f).2.toNat≤t.length:=by omega
    simp -implicitDefEqProofs [stepL,cw343,sp343,h38,c0,a1,a3,e5,e6]
   by_cases h48:n=48
   ·obtain ⟨a1,a2⟩:=extM_le t b
    have a3:(extM t b).2.toNat≤t.length:=by omega
    simp -implicitDefEqProofs [stepL,cw343,sp343,h48,c0,a1,a3,e5,e6]
   have e:=sp346 k ⟨f,b,g⟩ n
   simp only [pnD] at e
   simp -implicitDefEqProofs [stepL,cw346,e,h38,h48,c0,e5,e6]
 ·simp -implicitDefEqProofs []
theorem sp340 (k:Nat) (p:Pn) (l:List Int) (hl:l.length≤100000):evFun (clOf (modsR tab (k+3)) 3) s340 [pnD p, .sl 1 (intsD l)]=some (pnD (applyM p l),[]):=by
 unfold applyM
 split
 ·rename_i h
  subst h
  exact sp340_0 k p
 ·rename_i h
  exact sp340_1 k p l (by omega) h
end Go.Proofs.YtlpchliomdomdaaGreat.LgTab
