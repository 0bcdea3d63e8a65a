import Derived.Test.YtlpchliomdomdaaGreatPt10
namespace Go.Proofs.YtlpchliomdomdaaGreat.LgTab
open Go Lg
set_option linter.unusedVariables false
set_option linter.unusedSimpArgs false
set_option maxRecDepth 8000
theorem sp144 (k:Nat) (g:Gd) (o:OkG g) (hl:g.cells.length≤100000):evFun (clOf (modsR tab (k+1)) 3) s144 [gdD g]=some (gdO g,[]):=by
 have w:=sp451 k g.cells o.ne hl
 have h0:=o.ne
 rw [evFun_evB rfl]
 unfold s144
 simp -implicitDefEqProofs [cw451,w,h0]
theorem sp145 (k:Nat) (n:Int):evFun (clOf (modsR tab k) 3) s145 [I n]=some (I (mxI 0 (mnI n 40)),[]):=by
 rw [evFun_evB rfl]
 unfold s145
 simp -implicitDefEqProofs []
def partRow (l:List Cel) (c:Nat):List Cel:=if kAt l c=2∧0<c then (l.set (c-1) (blankC (l.getD (c-1) default).p)).set c (blankC (l.getD c default).p) else l
@[simp] theorem partRow_len (l:List Cel) (c:Nat):(partRow l c).length=l.length:=by unfold partRow;split<;>simp
set_option maxHeartbeats 1000000 in
theorem sp146 (k:Nat) (g:Gd) (o:OkG g) (r c:Nat) (hr:r<g.h) (hc:c<g.w):evFun (clOf (modsR tab (k+1)) 3) s146 [gdD g,I r,I c]=some (.osl true 5 (celsD (partRow (rowL g r) c)),[]):=by
 obtain ⟨e1,e2,e3,e5,e6⟩:=row_nums o hr
 have e4:=row_in o hr
 have hl:=rowL_len o hr
 have hw:=o.2.2.2.1
 have e7:(g.cells.drop (rowOff g r)).take g.w=rowL g r:=rfl
 have hne:rowL g r≠[]:=by intro h;rw [h] at hl;simp at hl;omega
 have w:=sp451 k (rowL g r) hne (by omega)
 generalize rowL g r=L at *
 obtain ⟨x,hx⟩:=get_ex (l:=L) (i:=c) (by omega)
 have gx:=celsD_getD hx
 have gx':=celsD_at hx
 have kx:=kAt_some hx
 have dx:L.getD c default=x:=by simp [List.getD,hx]
 rw [evFun_evB rfl]
 unfold s146
 by_cases h2:x.k=2
 ·by_cases h0:0<c
  ·obtain ⟨y,hy⟩:=get_ex (l:=L) (i:=c-1) (by omega)
   have gy:=celsD_getD hy
   have gy':=celsD_at hy
   have dy:L.getD (c-1) default=y:=by simp [List.getD,hy]
   have hp:partRow L c=(L.set (c-1) (blankC y.p)).set c (blankC x.p):=by unfold partRow;rw [if_pos ⟨by rw [kx,h2],h0⟩,dx,dy]
   have w1:=fun q=>sp106 q y.p
   have w2:=fun q=>sp106 q x.p
   have hc1:c-1<g.w:=by omega
   have t1:((c:Int)-1).toNat=c-1:=by omega
   have t2:(0:Int)≤(c:Int)-1:=by omega
   have t3:(1:Int)≤(c:Int):=by omega
   obtain ⟨z,hz⟩:=get_ex (l:=L.set (c-1) (blankC y.p)) (i:=c) (by simp;omega)
   have gz:=celsD_getD hz
   rw [hp]
   simp only [blankC] at w1 w2 gz ⊢
   simp -implicitDefEqProofs [e1,e2,e3,e4,e5,e6,e7,hl,hne,hc,hc1,gx,gx',gy,gy',gz,h2,h0,t1,t2,t3,cw451,w,cr106,w1,w2,wr_id ((c:Int)-1) (by omega) (by omega)]
  ·have hp:partRow L c=L:=by unfold partRow;rw [if_neg (by omega)]
   have h0':c=0:=by omega
   subst h0'
   simp -implicitDefEqProofs [e1,e2,e3,e4,e5,e6,e7,hl,hne,hc,gx,gx',h2,cw451,w,hp]
 ·have hp:partRow L c=L:=by unfold partRow;rw [if_neg (by rw [kx];omega)]
  simp -implicitDefEqProofs [e1,e2,e3,e4,e5,e6,e7,hl,hne,hc,gx,gx',h2,cw451,w,hp]
theorem sp459 (k:Nat) (n:Nat) (h0:1≤n) (h1:n≤1000000):evFun (clOf (modsR tab k) 3) s459 [.sn,I n]=some (.osl true 5 [],[]):=by
 have a1:¬(n:Int)<0:=by omega
 have a2:(0:Int)<n:=by omega
 have a3:n*40≤140737488355328:=by omega
 have a4:0<n:=h0
 have a5:¬n=0:=by omega
 have a6:¬0=n:=by omega
 have e0:wr 0=0:=wr_id _ (by omega) (by omega)
 rw [evFun_evB rfl]
 unfold s459
 simp -implicitDefEqProofs [a1,a2,a3,a4,a5,a6,wr_id ((n:Int)) (by omega) (by omega),e0,wr_id ((n:Int)-0) (by omega) (by omega)]
def tot3 (a b c:List Cel):Nat→Nat | 0=>0 | 1=>a.length | 2=>a.length+b.length | _=>a.length+b.length+c.length
def app3 (a b c:List Cel):Nat→List Cel | 0=>[] | 1=>a | 2=>a++b | _=>a++b++c
set_option maxHeartbeats 1000000 in
theorem sp452 (k:Nat) (a b c:List Cel) (h0:1≤a.length+b.length+c.length) (h1:a.length+b.length+c.length≤100000):evFun (clOf (modsR tab (k+1)) 3) s452 [.sl 1 [.sl 5 (celsD a), .sl 5 (celsD b), .sl 5 (celsD c)]]=some (.osl true 5 (celsD (a++b++c)),[]):=by
 have w:=sp459 k (a.length+b.length+c.length) h0 (by omega)
 rw [evFun_evB rfl]
 unfold s452
 simp -implicitDefEqProofs []
 refine evB_for (fun i=>[.sl 1 [.sl 5 (celsD a), .sl 5 (celsD b), .sl 5 (celsD c)],I (tot3 a b c i), .sl 1 [.sl 5 (celsD a), .sl 5 (celsD b), .sl 5 (celsD c)],I 3,I i]) 3 (.exit 0)
  [.sl 1 [.sl 5 (celsD a), .sl 5 (celsD b), .sl 5 (celsD c)],I ((a.length+b.length+c.length:Nat):Int), .sl 1 [.sl 5 (celsD a), .sl 5 (celsD b), .sl 5 (celsD c)],I 3,I 3] ?_ (fun i hi=>?_) ?_ (by simp) (by decide) ?_
 ·simp -implicitDefEqProofs [tot3]
 ·have hc:i=0∨i=1∨i=2:=by omega
  have e0:wr (0:Int)=0:=wr_id _ (by omega) (by omega)
  rcases hc with rfl | rfl | rfl
  ·have n1:¬(a.length:Int)<0:=by omega
   simp -implicitDefEqProofs [tot3,wr_id ((0:Int)+a.length) (by omega) (by omega),wr_id ((a.length:Int)) (by omega) (by omega),wr_id ((0:Int)+1) (by omega) (by omega),wr_id ((1:Int)) (by omega) (by omega),n1]
  ·have n1:¬(a.length:Int)+b.length<0:=by omega
   simp -implicitDefEqProofs [tot3,wr_id ((a.length:Int)+b.length) (by omega) (by omega),wr_id ((1:Int)+1) (by omega) (by omega),wr_id ((2:Int)) (by omega) (by omega),n1]
  ·have n1:¬(a.length:Int)+b.length+c.length<0:=by omega
   simp -implicitDefEqProofs [tot3,wr_id ((a.length:Int)+b.length+c.length) (by omega) (by omega),wr_id ((2:Int)+1) (by omega) (by omega),wr_id ((3:Int)) (by omega) (by omega),n1]
 ·simp -implicitDefEqProofs [tot3]
 ·simp only [Int.natCast_add] at w
  simp -implicitDefEqProofs [cw459,w]
  refine evB_for (fun i=>[.sl 1 [.sl 5 (celsD a), .sl 5 (celsD b), .sl 5 (celsD c)],I 3,I i, .osl true 5 (celsD (app3 a b c i))]) 3 (.exit 2)
   [.sl 1 [.sl 5 (celsD a), .sl 5 (celsD b), .sl 5 (celsD c)],I 3,I 3, .osl true 5 (celsD (a++b++c))] ?_ (fun i hi=>?_) ?_ (by simp) (by decide) ?_
  ·simp -implicitDefEqProofs [app3]
  ·have hc:i=0∨i=1∨i=2:=by omega
   have b1:a.length*40≤140737488355328:=by omega
   have b2:(a.length+b.length)*40≤140737488355328:=by omega
   have b3:(a.length+(b.length+c.length))*40≤140737488355328:=by omega
   have b4:(a.length+b.length+c.length)*40≤140737488355328:=by omega
   have ta:(a++b).take (a.length+b.length)=a++b:=List.take_of_length_le (by simp)
   rcases hc with rfl | rfl | rfl
   ·simp -implicitDefEqProofs [app3,b1,wr_id ((0:Int)+1) (by omega) (by omega),wr_id ((1:Int)) (by omega) (by omega)]
   ·simp -implicitDefEqProofs [app3,b2,wr_id ((1:Int)+1) (by omega) (by omega),wr_id ((2:Int)) (by omega) (by omega)]
   ·simp -implicitDefEqProofs [app3,b3,b4,ta,wr_id ((2:Int)+1) (by omega) (by omega),wr_id ((3:Int)) (by omega) (by omega)]
  ·simp -implicitDefEqProofs [app3]
  ·simp -implicitDefEqProofs []
set_option maxHeartbeats 1000000 in
theorem sp148 (k:Nat) (g:Gd) (o:OkG g) (hl:g.cells.length≤100000) (r:Nat) (hr:r<g.h) (l:List Cel) (hll:l.length=g.w):evFun (clOf (modsR tab (k+2)) 3) s148 [gdD g,I r, .sl 5 (celsD l)]=some (gdD (setRow g r (mendL l)),[]):=by
 obtain ⟨e1,e2,e3,e5,e6⟩:=row_nums o hr
 have e4:=row_in o hr
 have hne:l≠[]:=by intro h;have:=o.2.2.1;rw [h] at hll;simp at hll;omega
 have w1:=fun q=>sp451 q g.cells o.ne hl
 have w2:=fun q=>sp150 q l hne (by have:=o.2.2.2.1;omega)
 have h0:=o.ne
 have e7:(mendL l).take (g.cells.length-rowOff g r)=mendL l:=List.take_of_length_le (by simp;omega)
 have e8:min l.length (g.cells.length-rowOff g r)=g.w:=by omega
 have e10:(mendL l).take g.w=mendL l:=List.take_of_length_le (by simp;omega)
 have hc:(setRow g r (mendL l)).cells=g.cells.take (rowOff g r)++mendL l++g.cells.drop (rowOff g r+g.w):=rfl
 have e9:rowOff g r≤g.cells.length:=by omega
 have hlen:(setRow g r (mendL l)).cells.length=g.cells.length:=by rw [hc];simp;omega
 have tk:(setRow g r (mendL l)).cells.take g.cells.length=(setRow g r (mendL l)).cells:=List.take_of_length_le (by omega)
 rw [List.append_assoc] at hc
 have g1:(setRow g r (mendL l)).h=g.h:=rfl
 have g2:(setRow g r (mendL l)).w=g.w:=rfl
 generalize setRow g r (mendL l)=G at *
 rw [evFun_evB rfl]
 unfold s148
 simp -implicitDefEqProofs [e1,e2,e3,e4,e5,e6,e7,e8,e9,e10,cw451,w1,h0,cr150,w2,hne,←hc,hlen,tk,g1,g2]
def inRow (l:List Cel) (c n:Nat) (p:Pn):List Cel:=(partRow l c).take c++List.replicate n (blankC p)++((partRow l c).take (l.length-n)).drop c
def deRow (l:List Cel) (c n:Nat) (p:Pn):List Cel:=(partRow l c).take c++(partRow l c).drop (c+n)++List.replicate n (blankC p)
theorem inRow_len (l:List Cel) (c n:Nat) (p:Pn) (h:c+n≤l.length):(inRow l c n p).length=l.length:=by simp [inRow];omega
theorem deRow_len (l:List Cel) (c n:Nat) (p:Pn) (h:c+n≤l.length):(deRow l c n p).length=l.length:=by simp [deRow];omega
def manyC (g:Gd) (c:Nat) (n:Int):Nat:=(min n ((g.w:Int)-c)).toNat
def insG (g:Gd) (r c:Nat) (n:Int) (p:Pn):Gd:=setRow g r (mendL (inRow (rowL g r) c (manyC g c n) p))
def delG (g:Gd) (r c:Nat) (n:Int) (p:Pn):Gd:=setRow g r (mendL (deRow (rowL g r) c (manyC g c n) p))
theorem many_eq (g:Gd) (c:Nat) (hc:c<g.w) (n:Int) (hn:1≤n):mxI 0 (mnI n ((g.w:Int)-c))=manyC g c n∧1≤manyC g c n∧c+manyC g c n≤g.w:=by
 unfold manyC mxI mnI
 repeat' split
 all_goals omega
set_option maxHeartbeats 2000000 in
theorem sp140 (k:Nat) (g:Gd) (o:OkG g) (hl:g.cells.length≤100000) (r c:Nat) (hr:r<g.h) (hc:c<g.w) (n:Int) (hn:1≤n) (p:Pn):evFun (clOf (modsR tab (k+4)) 3) s140 [gdD g,I r,I c,I n,pnD p]=some (gdD (insG g r c n p),[]):=by
 obtain ⟨m1,m2,m3⟩:=many_eq g c hc n hn
 have hw:=rowL_len o hr
 have hw2:=o.2.2.2.1
 obtain ⟨x,hx⟩:=get_ex (l:=rowL g r) (i:=c) (by omega)
 have w149:=fun q=>sp149 q g o r c hr hc x hx
 have w146:=fun q=>sp146 q g o r c hr hc
 have w143:=fun q=>sp143 q (manyC g c n) m2 (by omega) p
 have e0:wr ((g.w:Int)-c)=(g.w:Int)-c:=wr_id _ (by omega) (by omega)
 have e1:wr ((g.w:Int)-(manyC g c n:Nat))=((g.w-manyC g c n:Nat):Int):=by rw [wr_id _ (by omega) (by omega)];omega
 have hlen:=inRow_len (rowL g r) c (manyC g c n) p (by omega)
 have w148:=fun q=>sp148 q g o hl r hr (inRow (rowL g r) c (manyC g c n) p) (by omega)
 have hR:inRow (rowL g r) c (manyC g c n) p=(partRow (rowL g r) c).take c++List.replicate (manyC g c n) (blankC p)++((partRow (rowL g r) c).take (g.w-manyC g c n)).drop c:=by unfold inRow;rw [hw]
 have hP:(partRow (rowL g r) c).length=g.w:=by rw [partRow_len];exact hw
 have hdt:(List.drop c (partRow (rowL g r) c)).take (g.w-manyC g c n-c)=((partRow (rowL g r) c).take (g.w-manyC g c n)).drop c:=by rw [List.drop_take]
 have w452:=fun q=>sp452 q ((partRow (rowL g r) c).take c) (List.replicate (manyC g c n) (blankC p)) (((partRow (rowL g r) c).take (g.w-manyC g c n)).drop c) (by simp;omega) (by simp;omega)
 rw [←hR] at w452
 have hG:insG g r c n p=setRow g r (mendL (inRow (rowL g r) c (manyC g c n) p)):=rfl
 rw [hG]
 have g1:(setRow g r (mendL (inRow (rowL g r) c (manyC g c n) p))).h=g.h:=rfl
 have g2:(setRow g r (mendL (inRow (rowL g r) c (manyC g c n) p))).w=g.w:=rfl
 generalize setRow g r (mendL (inRow (rowL g r) c (manyC g c n) p))=G at *
 generalize inRow (rowL g r) c (manyC g c n) p=IR at *
 generalize partRow (rowL g r) c=PR at *
 generalize manyC g c n=M at *
 have c1:c≤g.w:=by omega
 have c2:c≤g.w-M:=by omega
 have c3:(0:Int)≤((g.w-M:Nat):Int):=by omega
 rw [evFun_evB rfl]
 unfold s140
 simp -implicitDefEqProofs [cw149,w149,cw146,w146,e0,m1,hP,c1,c2,c3,cr143,w143,e1,hdt,cr452,w452,cw148,w148,g1,g2]
set_option maxHeartbeats 2000000 in
theorem sp137 (k:Nat) (g:Gd) (o:OkG g) (hl:g.cells.length≤100000) (r c:Nat) (hr:r<g.h) (hc:c<g.w) (n:Int) (hn:1≤n) (p:Pn):evFun (clOf (modsR tab (k+4)) 3) s137 [gdD g,I r,I c,I n,pnD p]=some (gdD (delG g r c n p),[]):=by
 obtain ⟨m1,m2,m3⟩:=many_eq g c hc n hn
 have hw:=rowL_len o hr
 have hw2:=o.2.2.2.1
 obtain ⟨x,hx⟩:=get_ex (l:=rowL g r) (i:=c) (by omega)
 have w149:=fun q=>sp149 q g o r c hr hc x hx
 have w146:=fun q=>sp146 q g o r c hr hc
 have w143:=fun q=>sp143 q (manyC g c n) m2 (by omega) p
 have e0:wr ((g.w:Int)-c)=(g.w:Int)-c:=wr_id _ (by omega) (by omega)
 have e1:wr ((c:Int)+(manyC g c n:Nat))=(c:Int)+(manyC g c n:Nat):=wr_id _ (by omega) (by omega)
 have hlen:=deRow_len (rowL g r) c (manyC g c n) p (by omega)
 have w148:=fun q=>sp148 q g o hl r hr (deRow (rowL g r) c (manyC g c n) p) (by omega)
 have hR:deRow (rowL g r) c (manyC g c n) p=(partRow (rowL g r) c).take c++(partRow (rowL g r) c).drop (c+manyC g c n)++List.replicate (manyC g c n) (blankC p):=rfl
 have hP:(partRow (rowL g r) c).length=g.w:=by rw [partRow_len];exact hw
 have w452:=fun q=>sp452 q ((partRow (rowL g r) c).take c) ((partRow (rowL g r) c).drop (c+manyC g c n)) (List.replicate (manyC g c n) (blankC p)) (by simp;omega) (by simp;omega)
 rw [←hR] at w452
 have hG:delG g r c n p=setRow g r (mendL (deRow (rowL g r) c (manyC g c n) p)):=rfl
 rw [hG]
 have g1:(setRow g r (mendL (deRow (rowL g r) c (manyC g c n) p))).h=g.h:=rfl
 have g2:(setRow g r (mendL (deRow (rowL g r) c (manyC g c n) p))).w=g.w:=rfl
 generalize setRow g r (mendL (deRow (rowL g r) c (manyC g c n) p))=G at *
 generalize deRow (rowL g r) c (manyC g c n) p=IR at *
 generalize partRow (rowL g r) c=PR at *
 generalize manyC g c n=M at *
 have c1:c≤g.w:=by omega
 have c3:(0:Int)≤(c:Int)+(M:Nat):=by omega
 have c4:((c:Int)+(M:Nat)).toNat=c+M:=by omega
 have tk:(PR.drop (c+M)).take (g.w-(c+M))=PR.drop (c+M):=List.take_of_length_le (by simp;omega)
 rw [evFun_evB rfl]
 unfold s137
 simp -implicitDefEqProofs [cw149,w149,cw146,w146,e0,m1,hP,c1,m3,c3,c4,cr143,w143,e1,tk,cr452,w452,cw148,w148,g1,g2]
end Go.Proofs.YtlpchliomdomdaaGreat.LgTab
