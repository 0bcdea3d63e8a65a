import Derived.Test.YtlpchliomdomdaaGreatPt24
namespace Go.Proofs.YtlpchliomdomdaaGreat.LgTab
open Go Lg
set_option linter.unusedVariables false
set_option linter.unusedSimpArgs false
set_option maxRecDepth 8000
theorem sp313 (k:Nat) (g:Gd) (o:OkG g) (r:Nat) (hr:r<g.h):evFun (clOf (modsR tab k) 3) s313 [gdD g,I r]=some (.sl 5 (celsD (rowL g r)),[]):=by
 obtain ⟨e1,e2,e3,e5,e6⟩:=row_nums o hr
 have e4:=row_in o hr
 rw [evFun_evB rfl]
 unfold s313
 simp -implicitDefEqProofs [e1,e2,e3,e4,e5,e6,rowL]
theorem sp301 (k:Nat) (g:Gd) (hl:g.cells.length≤100000):evFun (clOf (modsR tab k) 3) s301 [gdD g]=some (gdO g,[]):=by
 have b1:g.cells.length*40≤140737488355328:=by omega
 rw [evFun_evB rfl]
 unfold s301
 simp -implicitDefEqProofs [b1]
def setTo' (g:Gd) (r:Nat) (l:List Cel) (i:Nat):List Cel:=g.cells.take (rowOff g r)++l.take i++g.cells.drop (rowOff g r+i)
theorem setTo_0 (g:Gd) (r:Nat) (l:List Cel):setTo' g r l 0=g.cells:=by simp [setTo']
theorem setTo_all {g:Gd} {r:Nat} {l:List Cel} (hl:l.length=g.w):setTo' g r l l.length=(setRow g r l).cells:=by
 unfold setTo' setRow
 rw [List.take_of_length_le (Nat.le_refl _),hl]
theorem setTo_len {g:Gd} (o:OkG g) {r:Nat} (hr:r<g.h) {l:List Cel} {i:Nat} (hi:i≤l.length) (hl:l.length=g.w):(setTo' g r l i).length=g.cells.length:=by
 have:=row_in o hr
 simp [setTo']
 omega
theorem setTo_next {g:Gd} (o:OkG g) {r:Nat} (hr:r<g.h) {l:List Cel} {i:Nat} {x:Cel} (hx:l[i]? = some x) (hl:l.length=g.w):(setTo' g r l i).set (rowOff g r+i) x=setTo' g r l (i+1):=by
 have hin:=row_in o hr
 have hi:=(List.getElem?_eq_some_iff.1 hx).1
 unfold setTo'
 rw [take_snoc hx]
 have h1:(List.take (rowOff g r) g.cells++List.take i l).length=rowOff g r+i:=by simp;omega
 rw [List.set_append_right _ _ (by omega),h1,Nat.sub_self]
 obtain ⟨y,hy⟩:=get_ex (l:=g.cells) (i:=rowOff g r+i) (by omega)
 have e:g.cells.drop (rowOff g r+i)=y :: g.cells.drop (rowOff g r+i+1):=by
  rw [List.drop_eq_getElem_cons (by omega),get_of hy]
 rw [e,List.set_cons_zero]
 simp [Nat.add_assoc]
set_option maxHeartbeats 4000000 in
theorem sp315 (k:Nat) (g:Gd) (o:OkG g) (hgl:g.cells.length≤100000) (r:Nat) (hr:r<g.h) (l:List Cel) (hl:l.length=g.w):evFun (clOf (modsR tab (k+1)) 3) s315 [gdD g,I r, .sl 5 (celsD l)]=some (gdD (setRow g r l),[]):=by
 have w1:=fun q=>sp301 q g hgl
 obtain ⟨e1,e2,e3,e5,e6⟩:=row_nums o hr
 have e4:=row_in o hr
 have hw:=o.2.2.2.1
 have s0:=setTo_0 g r l
 have sN:=setTo_all (r:=r) hl
 have hlw:l.length≤1000:=by omega
 rw [evFun_evB rfl]
 unfold s315
 simp -implicitDefEqProofs [cw301,w1]
 refine evB_for (fun i=>[I r, .sl 5 (celsD l),I l.length,I i, .obx [I g.h,I g.w, .osl true 5 (celsD (setTo' g r l i))], .obx [I 0,I 0, .sn]]) l.length (.exit 0) [I r, .sl 5 (celsD l),I l.length,I l.length, .obx [I g.h,I g.w, .osl true 5 (celsD (setTo' g r l l.length))], .obx [I 0,I 0, .sn]] ?_ (fun i hi=>?_) ?_ (by simp) (by simp [rounds];omega) ?_
 ·simp -implicitDefEqProofs [s0]
 ·obtain ⟨x,hx⟩:=get_ex hi
  have gx:=celsD_at hx
  have hlt:(i:Int)<l.length:=by omega
  have hn:=setTo_next o hr hx hl
  have len:=setTo_len o hr (l:=l) (i:=i) (by omega) hl
  have lenj:=setTo_len o hr (l:=l) (i:=i+1) (by omega) hl
  obtain ⟨y,hy⟩:=get_ex (l:=setTo' g r l i) (i:=rowOff g r+i) (by omega)
  have gy:=celsD_getD hy
  have e7:wr ((rowOff g r:Int)+(i:Int))=((rowOff g r+i:Nat):Int):=by rw [wr_id _ (by omega) (by omega)];omega
  have h8:rowOff g r+i<g.cells.length:=by omega
  generalize setTo' g r l (i+1)=L' at *
  generalize setTo' g r l i=L at *
  generalize rowOff g r+i=q at *
  simp -implicitDefEqProofs [hlt,hi,gx,e1,e7,len,lenj,gy,h8,hn,wr_id ((i:Int)+1) (by omega) (by omega)]
 ·simp -implicitDefEqProofs []
 ·have lenN:=setTo_len o hr (l:=l) (i:=l.length) (Nat.le_refl _) hl
  rw [sN] at lenN ⊢
  have g1:(setRow g r l).h=g.h:=rfl
  have g2:(setRow g r l).w=g.w:=rfl
  generalize setRow g r l=G at *
  have tk:G.cells.take g.cells.length=G.cells:=List.take_of_length_le (by omega)
  simp -implicitDefEqProofs [g1,g2,lenN,tk]
theorem mend_tail (l:List Cel) (n:Nat) (hn:l.length≤n):mendTo l n=mendL l:=by
 unfold mendTo mendL
 apply List.ext_getElem?
 intro i
 rw [List.getElem?_mapIdx,List.getElem?_mapIdx]
 cases hx:l[i]? with
 | none=>rfl
 | some x =>
  have:i<n:=by have:=(List.getElem?_eq_some_iff.1 hx).1;omega
  simp [this]
def mendAt (l:List Cel) (n:Nat):List Cel:=l.mapIdx fun j x=>if decide (j<n) && halfB l j then blankC x.p else x
theorem mendAt_len (l:List Cel) (n:Nat):(mendAt l n).length=l.length:=by simp [mendAt]
theorem mendAt_0 (l:List Cel):mendAt l 0=l:=by
 apply List.ext_getElem?
 intro i
 unfold mendAt
 rw [List.getElem?_mapIdx]
 cases l[i]?<;>simp
theorem mendAt_all (l:List Cel):mendAt l l.length=mendL l:=mend_tail l l.length (Nat.le_refl _)
theorem mendAt_get {l:List Cel} {i n:Nat} {x:Cel} (hx:l[i]? = some x):(mendAt l n)[i]? = some (if decide (i<n) && halfB l i then blankC x.p else x):=by
 unfold mendAt
 rw [List.getElem?_mapIdx,hx]
 rfl
theorem mendAt_step {l:List Cel} {i:Nat} {x:Cel} (hx:l[i]? = some x):mendAt l (i+1)=if halfB l i=true then (mendAt l i).set i (blankC x.p) else mendAt l i:=by
 have hi:=(List.getElem?_eq_some_iff.1 hx).1
 apply List.ext_getElem?
 intro j
 by_cases hj:j<l.length
 ·obtain ⟨y,hy⟩:=get_ex hj
  rw [mendAt_get hy]
  by_cases hb:halfB l i=true
  ·rw [if_pos hb,List.getElem?_set]
   by_cases e:i=j
   ·subst e
    rw [hx] at hy
    injection hy with hy
    subst hy
    simp [hb,mendAt_len,hi]
   ·rw [if_neg e,mendAt_get hy]
    have:decide (j<i+1)=decide (j<i):=decide_eq_decide.2 (by omega)
    rw [this]
  ·rw [if_neg hb,mendAt_get hy]
   by_cases e:i=j
   ·subst e
    simp [hb]
   ·have:decide (j<i+1)=decide (j<i):=decide_eq_decide.2 (by omega)
    rw [this]
 ·rw [List.getElem?_eq_none (by rw [mendAt_len];omega)]
  split
  ·rw [List.getElem?_eq_none (by simp [mendAt_len];omega)]
  ·rw [List.getElem?_eq_none (by rw [mendAt_len];omega)]
set_option maxHeartbeats 8000000 in
theorem sp287 (k:Nat) (l:List Cel) (hl:l.length≤1000):evFun (clOf (modsR tab (k+1)) 3) s287 [.sl 5 (celsD l)]=some (.osl true 5 (celsD (mendL l)),[]):=by
 have b1:l.length*40≤140737488355328:=by omega
 have m0:=mendAt_0 l
 rw [←mendAt_all]
 rw [evFun_evB rfl]
 unfold s287
 simp -implicitDefEqProofs [b1]
 refine evB_for (fun i=>[.sl 5 (celsD l), .sl 5 (celsD l),I l.length,I i, .osl true 5 (celsD (mendAt l i))]) l.length (.exit 0) [.sl 5 (celsD l), .sl 5 (celsD l),I l.length,I l.length, .osl true 5 (celsD (mendAt l l.length))] ?_ (fun i hi=>?_) ?_ (by simp) (by simp [rounds];omega) ?_
 ·simp -implicitDefEqProofs [m0]
 ·obtain ⟨x,hx⟩:=get_ex hi
  have gx:=celsD_at hx
  have kx:=kAt_some hx
  have hlt:(i:Int)<l.length:=by omega
  have hs:=mendAt_step hx
  have w283:=fun q=>sp283 q x.p
  have len:=mendAt_len l i
  obtain ⟨y,hy⟩:=get_ex (l:=mendAt l i) (i:=i) (by omega)
  have gy:=celsD_getD hy
  have e1:wr ((i:Int)+1)=(i:Int)+1:=wr_id _ (by omega) (by omega)
  have e0:wr ((i:Int)-1)=(i:Int)-1:=wr_id _ (by omega) (by omega)
  rw [hs]
  clear hs m0
  by_cases k1:x.k=1
  ·have k2:¬x.k=2:=by omega
   by_cases hn:i+1=l.length
   ·have hk:=kAt_none (l:=l) (i:=i+1) (by omega)
    have hh:halfB l i=true:=by unfold halfB;rw [kx,k1,hk];rfl
    have hn':(i:Int)+1=l.length:=by omega
    rw [if_pos hh]
    generalize mendAt l i=M at *
    simp -implicitDefEqProofs [hlt,hi,gx,eq_true k1,k2,e1,eq_true hn',eq_true hn,cw283,w283,len,gy,blankC]
   ·obtain ⟨z,hz⟩:=get_ex (l:=l) (i:=i+1) (by omega)
    have gz:=celsD_at hz
    have kz:=kAt_some hz
    have hn':¬(i:Int)+1=l.length:=by omega
    have ht:((i:Int)+1).toNat=i+1:=by omega
    have h0:(0:Int)≤(i:Int)+1:=by omega
    have hi1:i+1<l.length:=by omega
    by_cases kz2:z.k=2
    ·have hh:halfB l i=false:=by unfold halfB;rw [kx,kz,kz2,k1];rfl
     rw [if_neg (by rw [hh];decide)]
     generalize mendAt l i=M at *
     simp -implicitDefEqProofs [hlt,hi,gx,eq_true k1,k2,e1,hn',hn,gz,ht,h0,hi1,eq_true kz2,len]
    ·have hh:halfB l i=true:=by unfold halfB;rw [kx,kz,k1];simp [kz2]
     rw [if_pos hh]
     generalize mendAt l i=M at *
     simp -implicitDefEqProofs [hlt,hi,gx,eq_true k1,k2,e1,hn',hn,gz,ht,h0,hi1,kz2,cw283,w283,len,gy,blankC]
  ·by_cases k2:x.k=2
   ·by_cases hz0:i=0
    ·subst hz0
     have hh:halfB l 0=true:=by unfold halfB;rw [kx,k2];simp
     rw [if_pos hh]
     generalize mendAt l 0=M at *
     simp -implicitDefEqProofs [hlt,hi,gx,k1,eq_true k2,e1,wr_id (1) (by omega) (by omega),cw283,w283,len,gy,blankC]
    ·obtain ⟨j,hj⟩:∃ j,i=j+1:=⟨i-1,by omega⟩
     obtain ⟨z,hz⟩:=get_ex (l:=l) (i:=j) (by omega)
     have gz:=celsD_at hz
     have kz:=kAt_some hz
     have hz0':¬(i:Int)=0:=by omega
     have e0':wr ((i:Int)-1)=(j:Int):=by rw [e0];omega
     have hjl:j<l.length:=by omega
     have ej:i-1=j:=by omega
     by_cases kz1:z.k=1
     ·have hh:halfB l i=false:=by unfold halfB;rw [kx,ej,kz,kz1,k2];simp [hz0]
      rw [if_neg (by rw [hh];decide)]
      generalize mendAt l i=M at *
      simp -implicitDefEqProofs [hlt,hi,gx,k1,eq_true k2,e1,hz0,hz0',e0',hjl,gz,eq_true kz1,len]
     ·have hh:halfB l i=true:=by unfold halfB;rw [kx,ej,kz,k2];simp [hz0,kz1]
      rw [if_pos hh]
      generalize mendAt l i=M at *
      simp -implicitDefEqProofs [hlt,hi,gx,k1,eq_true k2,e1,hz0,hz0',e0',hjl,gz,kz1,cw283,w283,len,gy,blankC]
   ·have hh:halfB l i=false:=by unfold halfB;rw [kx];simp [k1,k2]
    rw [if_neg (by rw [hh];decide)]
    generalize mendAt l i=M at *
    simp -implicitDefEqProofs [hlt,hi,gx,k1,k2,e1,len]
 ·have len:=mendAt_len l l.length
  simp -implicitDefEqProofs [len]
 ·simp -implicitDefEqProofs []
end Go.Proofs.YtlpchliomdomdaaGreat.LgTab
namespace Go.Proofs.YtlpchliomdomdaaGreat.LgTab
open Go Lg
set_option linter.unusedVariables false
set_option linter.unusedSimpArgs false
set_option maxRecDepth 8000
set_option maxHeartbeats 8000000 in
theorem sp298 (k:Nat) (g:Gd) (o:OkG g) (hgl:g.cells.length≤100000) (r:Nat) (hr:r<g.h) (a b:Int) (p:Pn):evFun (clOf (modsR tab (k+2)) 3) s298 [gdD g,I r,I a,I b,pnD p]=some (gdD (wipeG g r a b p),[]):=by
 have hl:=rowL_len o hr
 have hw:=o.2.2.2.1
 obtain ⟨A,hA⟩:∃ A:Nat,mxI a 0=(A:Int):=⟨(mxI a 0).toNat,by unfold mxI;split<;>omega⟩
 obtain ⟨Z,hZ⟩:∃ Z,mnI b (g.w:Int)=Z:=⟨_,rfl⟩
 have hZw:Z≤g.w:=by rw [←hZ];unfold mnI;split<;>omega
 obtain ⟨N,hN⟩:∃ N:Nat,N=(max (A:Int) Z).toNat-A:=⟨_,rfl⟩
 have hG:wipeG g r a b p=setRow g r (mendL (wipeRow (rowL g r) A (A+N) p)):=by
  unfold wipeG
  have e:(max (A:Int) Z).toNat=A+N:=by omega
  rw [hA,hZ,e,Int.toNat_natCast]
 have w313:=fun q=>sp313 q g o r hr
 have w287:=fun q=>sp287 q (wipeRow (rowL g r) A (A+N) p) (by simp;omega)
 have w315:=fun q=>sp315 q g o hgl r hr (mendL (wipeRow (rowL g r) A (A+N) p)) (by rw [mendL_len',wipeRow_len,hl])
 have w0:=wipeRow_0 (rowL g r) A p
 have c0:¬(r:Int)<0:=by omega
 have c1:¬(g.h:Int)≤r:=by omega
 have c1n:¬g.h≤r:=by omega
 have b1:(rowL g r).length*40≤140737488355328:=by omega
 have w283:=fun q=>sp283 q p
 rw [hG]
 generalize hL:rowL g r=L at *
 rw [evFun_evB rfl]
 unfold s298
 simp -implicitDefEqProofs [c0,c1,c1n,cw313,w313,b1,hA,hZ]
 refine evB_for (fun i=>[I r,I Z,I ((A+i:Nat):Int), .obx [I g.h,I g.w, .sl 5 (celsD g.cells)], .obx [I p.f,I p.b,I p.g], .obx [I 0,I 0, .sn], .osl true 5 (celsD (wipeRow L A (A+i) p))]) N (.exit 0) [I r,I Z,I ((A+N:Nat):Int), .obx [I g.h,I g.w, .sl 5 (celsD g.cells)], .obx [I p.f,I p.b,I p.g], .obx [I 0,I 0, .sn], .osl true 5 (celsD (wipeRow L A (A+N) p))] ?_ (fun i hi=>?_) ?_ (by simp) (by simp [rounds];omega) ?_
 ·simp -implicitDefEqProofs [w0]
 ·have hc:A+i<L.length:=by omega
  have es:=wipeRow_succ L A (A+i) p (by omega) hc
  have et:A+(i+1)=A+i+1:=rfl
  rw [et,es]
  obtain ⟨y,hy⟩:=get_ex (l:=wipeRow L A (A+i) p) (i:=A+i) (by rw [wipeRow_len];exact hc)
  have gy:=celsD_getD hy
  have len:=wipeRow_len L A (A+i) p
  have hlt:((A+i:Nat):Int)<Z:=by omega
  have hi0:(0:Int)≤((A+i:Nat):Int):=by omega
  have e1:wr (((A+i:Nat):Int)+1)=((A+i+1:Nat):Int):=by rw [wr_id _ (by omega) (by omega)];omega
  generalize wipeRow L A (A+i) p=M at *
  generalize A+i=c at *
  simp -implicitDefEqProofs [hlt,hc,len,cw283,w283,gy,e1,hi0,blankC]
 ·have hge:¬((A:Int)+(N:Int))<Z:=by omega
  simp -implicitDefEqProofs [hge]
 ·generalize wipeRow L A (A+N) p=M at *
  generalize mendL M=M2 at *
  generalize setRow g r M2=G2 at *
  simp -implicitDefEqProofs [cw287,cr287,w287,cw315,w315]
def slX (i:Nat) (l:List D):D:=if i=0 then .sn else .osl true 5 l
theorem slX_0 (l:List D):slX 0 l = .sn:=rfl
theorem slX_succ (i:Nat) (l:List D):slX (i+1) l = .osl true 5 l:=rfl
set_option maxHeartbeats 4000000 in
theorem sp288 (k:Nat) (h w:Nat) (h0:1≤h∧h≤40) (h1:1≤w∧w≤60) (p:Pn):evFun (clOf (modsR tab (k+1)) 3) s288 [I h,I w,pnD p]=some (gdD (newG h w p),[]):=by
 have hm:h*w≤40*60:=Nat.mul_le_mul h0.2 h1.2
 have hpos:1≤h*w:=Nat.mul_le_mul h0.1 h1.1
 obtain ⟨N,hN⟩:∃ N,N=h*w:=⟨_,rfl⟩
 have eN:wr ((h:Int)*(w:Int))=(N:Int):=by
  have e:(h:Int)*(w:Int)=(N:Int):=by rw [hN];simp
  rw [e]
  exact wr_id _ (by omega) (by omega)
 have w283:=fun q=>sp283 q p
 have hG:newG h w p=⟨h,w,List.replicate N (blankC p)⟩:=by rw [hN];rfl
 have x0:=slX_0 (celsD (List.replicate 0 (blankC p)))
 rw [hG]
 rw [evFun_evB rfl]
 unfold s288
 simp -implicitDefEqProofs [eN]
 refine evB_for (fun i=>[I N,I i, .obx [I p.f,I p.b,I p.g], .obx [I 0,I 0, .sn], .obx [I h,I w,slX i (celsD (List.replicate i (blankC p)))]]) N (.exit 0) [I N,I N, .obx [I p.f,I p.b,I p.g], .obx [I 0,I 0, .sn], .obx [I h,I w,slX N (celsD (List.replicate N (blankC p)))]] ?_ (fun i hi=>?_) ?_ (by simp) (by simp [rounds];omega) ?_
 ·simp -implicitDefEqProofs [slX]
 ·have hlt:(i:Int)<N:=by omega
  have b1:i≤3518437208881:=by omega
  have b2:(i+1)*40≤140737488355328:=by omega
  have es:celsD (List.replicate (i+1) (blankC p))=celsD (List.replicate i (blankC p))++[celD (blankC p)]:=by unfold celsD;rw [List.replicate_succ',List.map_append];rfl
  have lt:(celsD (List.replicate i (blankC p))).length=i:=by simp
  have tt:(celsD (List.replicate i (blankC p))).take i=celsD (List.replicate i (blankC p)):=List.take_of_length_le (by omega)
  rw [slX_succ,es]
  rcases Nat.eq_zero_or_pos i with hz | hz
  ·subst hz
   simp -implicitDefEqProofs [slX,hlt,hi,cr283,cw283,w283,blankC,wr_id (1) (by omega) (by omega)]
  ·obtain ⟨j,rfl⟩:∃ j,i=j+1:=⟨i-1,by omega⟩
   rw [slX_succ]
   generalize celsD (List.replicate (j+1) (blankC p))=M at *
   generalize j+1=i at *
   simp -implicitDefEqProofs [hlt,hi,cr283,cw283,w283,lt,tt,b1,b2,blankC,wr_id ((i:Int)+1) (by omega) (by omega)]
 ·obtain ⟨j,hj⟩:∃ j,N=j+1:=⟨N-1,by omega⟩
  rw [hj,slX_succ,←hj]
  simp -implicitDefEqProofs []
 ·obtain ⟨j,hj⟩:∃ j,N=j+1:=⟨N-1,by omega⟩
  rw [hj,slX_succ,←hj]
  simp -implicitDefEqProofs []
def slY (i:Nat) (l:List D):D:=if i=0 then .osl true 5 l else .sl 5 l
theorem slY_0 (l:List D):slY 0 l = .osl true 5 l:=rfl
theorem slY_succ (i:Nat) (l:List D):slY (i+1) l = .sl 5 l:=rfl
set_option maxHeartbeats 8000000 in
theorem sp294 (k:Nat) (g:Gd) (o:OkG g) (hgl:g.cells.length≤100000) (hw60:g.w≤60) (top bot:Nat) (ht:top≤bot) (hb:bot<g.h) (n:Int) (hn : -100000≤n∧n≤100000) (p:Pn):evFun (clOf (modsR tab (k+2)) 3) s294 [gdD g,I top,I bot,I n,pnD p]=some (gdD (shG g top bot n p),[]):=by
 have hw1:=o.2.2.1
 have hh:=o.2.1
 have w301:=fun q=>sp301 q g hgl
 have w288:∀ q,evFun (clOf (modsR tab (q+1)) 3) s288 [I 1,I g.w,pnD p]=some (gdD (newG 1 g.w p),[]):=fun q=>sp288 q 1 g.w (by omega) (by omega) p
 have hnew:newG 1 g.w p=⟨1,g.w,List.replicate g.w (blankC p)⟩:=by unfold newG;rw [Nat.one_mul]
 rw [hnew] at w288
 have c0:¬(top:Int)<0:=by omega
 have c1:¬(g.h:Int)≤bot:=by omega
 have c1n:¬g.h≤bot:=by omega
 have c2:¬(bot:Int)<top:=by omega
 have c2n:¬bot<top:=by omega
 obtain ⟨N,hNe⟩:∃ N,N=bot+1-top:=⟨_,rfl⟩
 have hG:shG g top bot n p=shTo g top bot n p N:=by rw [hNe];rfl
 have h0:shTo g top bot n p 0=g:=rfl
 have y0:=slY_0 (celsD g.cells)
 rw [hG]
 rw [evFun_evB rfl]
 unfold s294
 simp -implicitDefEqProofs [c0,c1,c1n,c2,c2n,cw301,w301,cw288,w288]
 refine evB_for (fun i=>[I top,I bot,I n, .sl 5 (celsD (List.replicate g.w (blankC p))),I ((top+i:Nat):Int), .obx [I g.h,I g.w, .sl 5 (celsD g.cells)], .obx [I 0,I 0, .sn], .obx [I g.h,I g.w,slY i (celsD (shTo g top bot n p i).cells)]]) N (.exit 0)
  [I top,I bot,I n, .sl 5 (celsD (List.replicate g.w (blankC p))),I ((top+N:Nat):Int), .obx [I g.h,I g.w, .sl 5 (celsD g.cells)], .obx [I 0,I 0, .sn], .obx [I g.h,I g.w,slY N (celsD (shTo g top bot n p N).cells)]] ?_ (fun i hi=>?_) ?_ (by simp) (by simp [rounds];omega) ?_
 ·simp -implicitDefEqProofs [h0,y0]
 ·obtain ⟨oi,i1,i2,i3⟩:=shTo_ok (top:=top) o hb n p i (by omega)
  obtain ⟨oj,j1,j2,j3⟩:=shTo_ok (top:=top) o hb n p (i+1) (by omega)
  have ei:shTo g top bot n p (i+1)=setRow (shTo g top bot n p i) (top+i) (shRow g top bot n p (top+i)):=rfl
  have hri:top+i<(shTo g top bot n p i).h:=by rw [i1];omega
  have et:top+(i+1)=top+i+1:=rfl
  have hsl:(shRow g top bot n p (top+i)).length=(shTo g top bot n p i).w:=by rw [shRow_len (top:=top) o hb,i2]
  have w315:=fun q=>sp315 q (shTo g top bot n p i) oi (by omega) (top+i) hri (shRow g top bot n p (top+i)) hsl
  rw [←ei] at w315
  have ew:wr (((top+i:Nat):Int)+n)=((top+i:Nat):Int)+n:=wr_id _ (by omega) (by omega)
  have e1:wr (((top+i:Nat):Int)+1)=((top+i+1:Nat):Int):=by rw [wr_id _ (by omega) (by omega)];omega
  have hle:((top+i:Nat):Int)≤bot:=by omega
  have hlen:top+i≤bot:=by omega
  rw [slY_succ,et]
  by_cases hin:(top:Int)≤((top+i:Nat):Int)+n∧((top+i:Nat):Int)+n≤bot
  ·have hrow:shRow g top bot n p (top+i)=rowL g (((top+i:Nat):Int)+n).toNat:=by unfold shRow;rw [if_pos hin]
   obtain ⟨f,hf⟩:∃ f:Nat,((top+i:Nat):Int)+n=(f:Int):=⟨(((top+i:Nat):Int)+n).toNat,by omega⟩
   rw [hrow,hf,Int.toNat_natCast] at w315
   have w313:=fun q=>sp313 q g o f (by omega)
   rw [hf] at ew
   have f1:¬(f:Int)<top:=by omega
   have f2:¬(bot:Int)<f:=by omega
   have f1n:¬f<top:=by omega
   have f2n:¬bot<f:=by omega
   rcases Nat.eq_zero_or_pos i with hz | hz
   ·subst hz
    generalize shTo g top bot n p (0+1)=G' at *
    rw [h0] at w315 i1 i2
    simp only [Nat.add_zero] at *
    rw [h0,slY_0]
    simp -implicitDefEqProofs [hle,hlen,ew,hf,f1,f2,f1n,f2n,cr313,cw313,w313,cw315,cr315,w315,j1,j2,e1]
   ·obtain ⟨j,rfl⟩:∃ j,i=j+1:=⟨i-1,by omega⟩
    rw [slY_succ]
    generalize shTo g top bot n p (j+1+1)=G' at *
    generalize shTo g top bot n p (j+1)=G at *
    generalize top+(j+1)=r at *
    simp only [gdD,i1,i2] at w315
    simp -implicitDefEqProofs [hle,hlen,ew,hf,f1,f2,f1n,f2n,cr313,cw313,w313,cw315,cr315,w315,j1,j2,e1]
  ·have hrow:shRow g top bot n p (top+i)=List.replicate g.w (blankC p):=by unfold shRow;rw [if_neg hin]
   rw [hrow] at w315
   have hcase:((top+i:Nat):Int)+n<top∨¬((top+i:Nat):Int)+n<top∧(bot:Int)<((top+i:Nat):Int)+n:=by omega
   generalize List.replicate g.w (blankC p)=BL at *
   rcases Nat.eq_zero_or_pos i with hz | hz
   ·subst hz
    generalize shTo g top bot n p (0+1)=G' at *
    rw [h0] at w315 i1 i2
    simp only [Nat.add_zero] at *
    rw [h0,slY_0]
    generalize hX:(top:Int)+n=X at *
    rcases hcase with hc | ⟨hc,hc2⟩
    ·simp -implicitDefEqProofs [hle,hlen,hX,ew,hc,cw315,cr315,w315,j1,j2,e1]
    ·simp -implicitDefEqProofs [hle,hlen,hX,ew,hc,hc2,cw315,cr315,w315,j1,j2,e1]
   ·obtain ⟨j,rfl⟩:∃ j,i=j+1:=⟨i-1,by omega⟩
    rw [slY_succ]
    generalize shTo g top bot n p (j+1+1)=G' at *
    generalize shTo g top bot n p (j+1)=G at *
    generalize top+(j+1)=r at *
    simp only [gdD,i1,i2] at w315
    generalize hX:(r:Int)+n=X at *
    rcases hcase with hc | ⟨hc,hc2⟩
    ·simp -implicitDefEqProofs [hle,hlen,hX,ew,hc,cw315,cr315,w315,j1,j2,e1]
    ·simp -implicitDefEqProofs [hle,hlen,hX,ew,hc,hc2,cw315,cr315,w315,j1,j2,e1]
 ·have hge:¬((top:Int)+(N:Int))≤bot:=by omega
  obtain ⟨j,hj⟩:∃ j,N=j+1:=⟨N-1,by omega⟩
  have hs:slY N (celsD (shTo g top bot n p N).cells) = .sl 5 (celsD (shTo g top bot n p N).cells):=by rw [hj];rfl
  rw [hs]
  generalize shTo g top bot n p N=G at *
  simp -implicitDefEqProofs [hge]
 ·obtain ⟨oN,n1,n2,n3⟩:=shTo_ok (top:=top) o hb n p N (by omega)
  obtain ⟨j,hj⟩:∃ j,N=j+1:=⟨N-1,by omega⟩
  have hs:slY N (celsD (shTo g top bot n p N).cells) = .sl 5 (celsD (shTo g top bot n p N).cells):=by rw [hj];rfl
  rw [hs]
  generalize shTo g top bot n p N=G at *
  simp -implicitDefEqProofs [n1,n2]
end Go.Proofs.YtlpchliomdomdaaGreat.LgTab
