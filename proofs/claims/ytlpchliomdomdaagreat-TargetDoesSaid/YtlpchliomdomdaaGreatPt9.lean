import Derived.Test.YtlpchliomdomdaaGreatPt8
import Derived.Test.YtlpchliomdomdaaGreatPt5
namespace Go.Proofs.YtlpchliomdomdaaGreat.LgTab
open Go Lg
set_option linter.unusedVariables false
set_option linter.unusedSimpArgs false
set_option maxRecDepth 8000
theorem sp110 (k:Nat) (r a b:Int):evFun (clOf (modsR tab k) 3) s110 [R r,R a,R b]=some (B (decide (a≤r) && decide (r≤b)),[]):=by
 rw [evFun_evB rfl]
 unfold s110
 by_cases h:a≤r<;>simp -implicitDefEqProofs [h]
def narrowR (r:Int):Bool:=decide (r<32) || (decide (127≤r) && decide (r≤159)) || (decide (768≤r) && decide (r≤879)) || (decide (55296≤r) && decide (r≤57343)) || decide (1114111<r)
theorem sp112 (k:Nat) (r:Int):evFun (clOf (modsR tab (k+1)) 3) s112 [R r]=some (B (narrowR r),[]):=by
 have w:=fun a b=>sp110 k r a b
 have e:narrowR r=(decide (r<32) || (decide (127≤r) && decide (r≤159)) || (decide (768≤r) && decide (r≤879)) || (decide (55296≤r) && decide (r≤57343)) || decide (1114111<r)):=rfl
 rw [e]
 rw [evFun_evB rfl]
 unfold s112
 by_cases h1:r<32
 ·simp -implicitDefEqProofs [h1]
 cases h2:(decide (127≤r) && decide (r≤159))
 ·cases h3:(decide (768≤r) && decide (r≤879))
  ·cases h4:(decide (55296≤r) && decide (r≤57343))
   ·simp -implicitDefEqProofs [h1,cr110,cw110,w,h2,h3,h4]
   ·simp -implicitDefEqProofs [h1,cr110,cw110,w,h2,h3,h4]
  ·simp -implicitDefEqProofs [h1,cr110,cw110,w,h2,h3]
 ·simp -implicitDefEqProofs [h1,cr110,cw110,w,h2]
def wideL:List (Int×Int):=[(4352,4447),(11904,42191),(44032,55203),(63744,64255),(65072,65135),(65280,65376),(65504,65510),(127744,129791),(131072,262141)]
def wideR (r:Int):Bool:=wideL.any fun x=>decide (x.1≤r) && decide (r≤x.2)
def widthR (r:Int):Int:=if narrowR r then 0 else if wideR r then 2 else 1
theorem wideL_get (i:Nat) (h:i<9):∃ a b,wideL[i]? = some (a,b):=⟨_,_,List.getElem?_eq_getElem (by simpa [wideL] using h)⟩
def wideD:List D:=wideL.map fun x=> .agg [R x.1,R x.2]
theorem wideR_iff (r:Int):wideR r=true↔∃ (i:Nat) (a b:Int),wideL[i]? = some (a,b)∧a≤r∧r≤b:=by
 unfold wideR
 rw [List.any_eq_true]
 constructor
 ·rintro ⟨⟨a,b⟩,hx,h⟩
  simp only [Bool.and_eq_true,decide_eq_true_eq] at h
  obtain ⟨i,hi⟩:=List.getElem?_of_mem hx
  exact ⟨i,a,b,hi,h⟩
 ·rintro ⟨i,a,b,hi,h⟩
  exact ⟨(a,b),List.mem_of_getElem? hi,by simpa using h⟩
set_option maxHeartbeats 2000000 in
theorem sp113 (k:Nat) (r:Int):evFun (clOf (modsR tab (k+1)) 3) s113 [R r]=some (B (wideR r),[]):=by
 have w:=fun a b=>sp110 k r a b
 rw [evFun_evB rfl]
 unfold s113
 simp -implicitDefEqProofs []
 refine evB_inv (P:=fun o=>o=some (B (wideR r),[])) (σ:=Nat) (fun i=>[R r,B false, .sl 2 wideD,I 9,I i]) (fun i=>9-i) (fun i=>i≤9∧∀ j,j<i→∀ a b,wideL[j]? = some (a,b)→¬(a≤r∧r≤b))
  (fun ex t=>(ex = .exit 0∧wideR r=false∧t=[R r,B false, .sl 2 wideD,I 9,I 9])∨(ex = .ret∧wideR r=true∧∃ i:Int,t=[R r,B true, .sl 2 wideD,I 9,I i])) 0 ?_ ⟨by omega,by omega⟩ (by simp [rounds]) ?_ ?_
 ·simp -implicitDefEqProofs [wideD,wideL]
 ·rintro i ⟨hi,hj⟩
  by_cases h9:i=9
  ·right
   subst h9
   refine ⟨_,_,?_,by simp, .inl ⟨rfl,?_,rfl⟩⟩
   ·simp -implicitDefEqProofs [wideD,wideL]
   ·rw [Bool.eq_false_iff]
    intro h
    obtain ⟨j,a,b,h1,h2⟩:=(wideR_iff r).1 h
    exact hj j (by have:=(List.getElem?_eq_some_iff.1 h1).1;simpa [wideL] using this) a b h1 h2
  ·obtain ⟨a,b,hab⟩:=wideL_get i (by omega)
   have hg:wideD[i]? = some (.agg [R a,R b]):=by simp [wideD,hab]
   have hg':=get_of hg
   have e1:wr ((i:Int)+1)=((i+1:Nat):Int):=by rw [wr_id _ (by omega) (by omega)];omega
   have hlt:(i:Int)<9:=by omega
   have hlen:wideD.length=9:=rfl
   have hlt':i<9:=by omega
   have w':=w a b
   by_cases h:a≤r∧r≤b
   ·right
    refine ⟨.ret,[R r,B true, .sl 2 wideD,I 9,I i],?_,by simp, .inr ⟨rfl,(wideR_iff r).2 ⟨i,a,b,hab,h⟩,_,rfl⟩⟩
    have:(decide (a≤r) && decide (r≤b))=true:=by simpa using h
    rw [this] at w'
    generalize wideD=W at *
    simp -implicitDefEqProofs [hlt,hg,hg',hlen,hlt',cw110,w']
   ·left
    refine ⟨i+1,?_,by omega,by omega,fun j hj' c d hcd=>?_⟩
    ·have:(decide (a≤r) && decide (r≤b))=false:=by simpa using h
     rw [this] at w'
     generalize wideD=W at *
     simp -implicitDefEqProofs [hlt,hg,hg',hlen,hlt',cw110,w',e1]
    ·by_cases hj2:j=i
     ·subst hj2
      rw [hab] at hcd
      simp only [Option.some.injEq,Prod.mk.injEq] at hcd
      obtain ⟨rfl,rfl⟩:=hcd
      exact h
     ·exact hj j (by omega) c d hcd
 ·rintro ex t (⟨rfl,h,rfl⟩ | ⟨rfl,h,i,rfl⟩)
  ·rw [h]
   generalize wideD=W
   simp -implicitDefEqProofs []
  ·rw [h]
   generalize wideD=W
   simp -implicitDefEqProofs []
theorem sp109 (k:Nat) (r:Int):evFun (clOf (modsR tab (k+2)) 3) s109 [R r]=some (I (widthR r),[]):=by
 have w1:=sp112 k r
 have w2:=sp113 k r
 have e:widthR r=if narrowR r then 0 else if wideR r then 2 else 1:=rfl
 rw [e]
 generalize narrowR r=n at *
 generalize wideR r=v at *
 rw [evFun_evB rfl]
 unfold s109
 cases n<;>cases v<;>simp -implicitDefEqProofs [cw112,cw113,w1,w2]
def blankC (p:Pn):Cel:=⟨32,0,p⟩
theorem sp106 (k:Nat) (p:Pn):evFun (clOf (modsR tab k) 3) s106 [pnD p]=some (celD (blankC p),[]):=by
 rw [evFun_evB rfl]
 unfold s106
 simp -implicitDefEqProofs [blankC]
def plainP:Pn:=⟨-1,-1,0⟩
theorem sp107 (k:Nat):evFun (clOf (modsR tab k) 3) s107 []=some (pnD plainP,[]):=by
 rw [evFun_evB rfl]
 unfold s107
 simp -implicitDefEqProofs [plainP]
end Go.Proofs.YtlpchliomdomdaaGreat.LgTab
namespace Go.Proofs.YtlpchliomdomdaaGreat.LgTab
open Go Lg
set_option linter.unusedVariables false
set_option linter.unusedSimpArgs false
set_option maxRecDepth 8000
def kAt (l:List Cel) (i:Nat):Int:=match l[i]? with | some c=>c.k | none=>0
theorem kAt_some {l:List Cel} {i:Nat} {c:Cel} (h:l[i]? = some c):kAt l i=c.k:=by simp [kAt,h]
theorem kAt_none {l:List Cel} {i:Nat} (h:l.length≤i):kAt l i=0:=by simp [kAt,List.getElem?_eq_none h]
def halfB (l:List Cel) (i:Nat):Bool:=(decide (kAt l i=1) && !decide (kAt l (i+1)=2)) || (decide (kAt l i=2) && (decide (i=0) || !decide (kAt l (i-1)=1)))
theorem get_ex {α:Type} {l:List α} {i:Nat} (h:i<l.length):∃ x,l[i]? = some x:=⟨_,List.getElem?_eq_getElem h⟩
theorem sp159 (k:Nat) (l:List Cel) (i:Nat) (hi:i<l.length) (hl:l.length≤100000):evFun (clOf (modsR tab k) 3) s159 [.sl 5 (celsD l),I i]=some (B (halfB l i),[]):=by
 obtain ⟨x,hx⟩:=get_ex hi
 have g:=celsD_getD hx
 have g':=celsD_at hx
 have kx:=kAt_some hx
 rw [evFun_evB rfl]
 unfold s159
 by_cases k1:x.k=1
 ·by_cases hn:i+1=l.length
  ·have hk:=kAt_none (l:=l) (i:=i+1) (by omega)
   have hn':(i:Int)+1=l.length:=by omega
   simp -implicitDefEqProofs [g,g',hi,k1,hn',wr_id ((l.length:Int)) (by omega) (by omega),halfB,kx,hk]
  ·obtain ⟨y,hy⟩:=get_ex (l:=l) (i:=i+1) (by omega)
   have f:=celsD_getD hy
   have f':=celsD_at hy
   have ky:=kAt_some hy
   have hn':¬(i:Int)+1=l.length:=by omega
   have ht:((i:Int)+1).toNat=i+1:=by omega
   have h0:(0:Int)≤(i:Int)+1:=by omega
   have hi1:i+1<l.length:=by omega
   simp -implicitDefEqProofs [g,g',hi,k1,wr_id ((i:Int)+1) (by omega) (by omega),hn',f,f',ht,h0,hi1,halfB,kx,ky]
 ·by_cases k2:x.k=2
  ·by_cases h0:i=0
   ·subst h0
    simp -implicitDefEqProofs [g,g',hi,k1,k2,halfB,kx]
   ·obtain ⟨y,hy⟩:=get_ex (l:=l) (i:=i-1) (by omega)
    have f:=celsD_getD hy
    have f':=celsD_at hy
    have ky:=kAt_some hy
    have hn':¬(i:Int)=0:=by omega
    have ht:((i:Int)-1).toNat=i-1:=by omega
    have h1:(1:Int)≤(i:Int):=by omega
    have h1':(0:Int)≤(i:Int)-1:=by omega
    have hi1:i-1<l.length:=by omega
    simp -implicitDefEqProofs [g,g',hi,k1,k2,wr_id ((i:Int)-1) (by omega) (by omega),h0,hn',f,f',ht,h1,h1',hi1,halfB,kx,ky]
  ·simp -implicitDefEqProofs [g,g',hi,k1,k2,halfB,kx]
theorem sp451 (k:Nat) (l:List Cel) (h0:l≠[]) (h1:l.length≤100000):evNil (clOf (modsR tab k) 3) n451 [.sl 5 (celsD l)]=some (.osl true 5 (celsD l),[]):=by
 have e:evFun (clOf (modsR tab k) 3) (n451.fn false) [.sl 5 (celsD l)]=some (.osl true 5 (celsD l),[]):=by
  rw [evFun_evB rfl]
  unfold n451 NFun.fn NFun.body
  have b1:l.length*40≤140737488355328:=by omega
  simp -implicitDefEqProofs [b1,h0]
 unfold evNil
 rw [e]
 obtain ⟨c,t,rfl⟩:∃ c t,l=c :: t:=by cases l with | nil=>exact absurd rfl h0 | cons c t=>exact ⟨c,t,rfl⟩
 simp -implicitDefEqProofs [n451,atN,isSlD,nnD,Lg.evC,Lg.stepsO,celsD]
def OkG (g:Gd):Prop:=1≤g.h∧g.h≤1000∧1≤g.w∧g.w≤1000∧g.cells.length=g.h*g.w
theorem OkG.pos {g:Gd} (o:OkG g):0<g.cells.length:=by rw [o.2.2.2.2];exact Nat.mul_pos (by have:=o.1;omega) (by have:=o.2.2.1;omega)
theorem OkG.ne {g:Gd} (o:OkG g):g.cells≠[]:=by intro h;have:=o.pos;rw [h] at this;simp at this
theorem OkG.le {g:Gd} (o:OkG g):g.cells.length≤1000000:=by
 rw [o.2.2.2.2]
 exact Nat.le_trans (Nat.mul_le_mul o.2.1 o.2.2.2.1) (by decide)
theorem sp158 (k:Nat) (g:Gd) (o:OkG g) (hl:g.cells.length≤100000):evFun (clOf (modsR tab (k+1)) 3) s158 [gdD g]=some (gdO g,[]):=by
 have w:=sp451 k g.cells o.ne hl
 have h0:=o.ne
 rw [evFun_evB rfl]
 unfold s158
 simp -implicitDefEqProofs [cw451,w,h0]
theorem sp162 (k:Nat) (g:Gd) (r c:Int):evFun (clOf (modsR tab k) 3) s162 [gdD g,I r,I c]=some (B (decide (0≤r) && decide (r<g.h) && decide (0≤c) && decide (c<g.w)),[]):=by
 rw [evFun_evB rfl]
 unfold s162
 by_cases h1:0≤r
 ·by_cases h2:r<g.h
  ·by_cases h3:0≤c<;>simp -implicitDefEqProofs [h1,h2,h3]
  ·simp -implicitDefEqProofs [h1,h2]
 ·simp -implicitDefEqProofs [h1]
def mendTo (l:List Cel) (n:Nat):List Cel:=l.mapIdx fun j x=>if decide (j<n) && halfB l j then blankC x.p else x
def mendL (l:List Cel):List Cel:=l.mapIdx fun j x=>if halfB l j then blankC x.p else x
@[simp] theorem mendTo_len (l:List Cel) (n:Nat):(mendTo l n).length=l.length:=by simp [mendTo]
@[simp] theorem mendL_len (l:List Cel):(mendL l).length=l.length:=by simp [mendL]
theorem mendTo_0 (l:List Cel):mendTo l 0=l:=by
 unfold mendTo
 apply List.ext_getElem?
 intro i
 simp
theorem mendTo_all (l:List Cel):mendTo l l.length=mendL l:=by
 unfold mendTo mendL
 apply List.ext_getElem?
 intro i
 rw [List.getElem?_mapIdx,List.getElem?_mapIdx]
 cases h:l[i]? with
 | none=>rfl
 | some x =>
  have:i<l.length:=(List.getElem?_eq_some_iff.1 h).1
  simp [this]
theorem mendTo_get {l:List Cel} {i n:Nat} {x:Cel} (h:l[i]? = some x) (hn:n≤i):(mendTo l n)[i]? = some x:=by
 unfold mendTo
 rw [List.getElem?_mapIdx,h]
 simp
 omega
theorem mendTo_set {l:List Cel} {i:Nat} {x:Cel} (h:l[i]? = some x) (hb:halfB l i=true):(mendTo l i).set i (blankC x.p)=mendTo l (i+1):=by
 unfold mendTo
 apply List.ext_getElem?
 intro j
 rw [List.getElem?_set,List.getElem?_mapIdx,List.getElem?_mapIdx]
 have hi:i<l.length:=(List.getElem?_eq_some_iff.1 h).1
 by_cases e:i=j
 ·subst e
  simp [h,hb,hi,get_of h hi]
 ·rw [if_neg e]
  cases l[j]? with
  | none=>rfl
  | some y =>
   have:(j<i)=(j<i+1):=by apply propext;omega
   simp [this]
theorem mendTo_skip {l:List Cel} {i:Nat} (hb:halfB l i=false):mendTo l (i+1)=mendTo l i:=by
 unfold mendTo
 apply List.ext_getElem?
 intro j
 rw [List.getElem?_mapIdx,List.getElem?_mapIdx]
 cases l[j]? with
 | none=>rfl
 | some y =>
  by_cases e:i=j
  ·subst e;simp [hb]
  ·have:(j<i)=(j<i+1):=by apply propext;omega
   simp [this]
theorem sp150 (k:Nat) (l:List Cel) (h0:l≠[]) (hl:l.length≤100000):evFun (clOf (modsR tab (k+1)) 3) s150 [.sl 5 (celsD l)]=some (.osl true 5 (celsD (mendL l)),[]):=by
 rw [evFun_evB rfl]
 unfold s150
 simp -implicitDefEqProofs [cw451,sp451 k l h0 hl,h0]
 refine evB_for (fun i=>[.sl 5 (celsD l), .sl 5 (celsD l),I l.length,I i, .osl true 5 (celsD (mendTo l i))]) l.length (.exit 0) [.sl 5 (celsD l), .sl 5 (celsD l),I l.length,I l.length, .osl true 5 (celsD (mendL l))] ?_ (fun i hi=>?_) ?_ (by simp) (by simp [rounds];omega) ?_
 ·simp -implicitDefEqProofs [mendTo_0]
 ·obtain ⟨x,hx⟩:=get_ex hi
  have g:=celsD_getD hx
  have g':=celsD_at hx
  have m:=celsD_getD (mendTo_get hx (Nat.le_refl i))
  have m':=celsD_at (mendTo_get hx (Nat.le_refl i))
  have w:=sp159 k l i hi hl
  have w2:=sp106 k x.p
  have hlt:(i:Int)<l.length:=by omega
  cases hb:halfB l i
  ·rw [hb] at w
   have e:=mendTo_skip hb
   simp -implicitDefEqProofs [hlt,hi,g,g',m,m',cw159,w,wr_id ((i:Int)+1) (by omega) (by omega),e]
  ·rw [hb] at w
   have e:=mendTo_set hx hb
   simp only [blankC] at e
   simp -implicitDefEqProofs [hlt,hi,g,g',m,m',cw159,w,cw106,w2,blankC,wr_id ((i:Int)+1) (by omega) (by omega),e]
 ·simp -implicitDefEqProofs [mendTo_all]
 ·simp -implicitDefEqProofs []
@[irreducible] def rowOff (g:Gd) (r:Nat):Nat:=r*g.w
theorem rowOff_def (g:Gd) (r:Nat):rowOff g r=r*g.w:=by unfold rowOff;rfl
def rowL (g:Gd) (r:Nat):List Cel:=(g.cells.drop (rowOff g r)).take g.w
def setRow (g:Gd) (r:Nat) (l:List Cel):Gd:={g with cells:=g.cells.take (rowOff g r)++l++g.cells.drop (rowOff g r+g.w)}
theorem row_in {g:Gd} (o:OkG g) {r:Nat} (hr:r<g.h):rowOff g r+g.w≤g.cells.length:=by
 rw [o.2.2.2.2,rowOff_def]
 have:(r+1)*g.w≤g.h*g.w:=Nat.mul_le_mul_right _ hr
 rw [Nat.add_mul] at this
 omega
theorem rowL_len {g:Gd} (o:OkG g) {r:Nat} (hr:r<g.h):(rowL g r).length=g.w:=by
 have:=row_in o hr
 simp [rowL]
 omega
theorem row_nums {g:Gd} (o:OkG g) {r:Nat} (hr:r<g.h):wr ((r:Int)*(g.w:Int))=(rowOff g r:Nat)∧wr ((r:Int)+1)=(r:Int)+1∧wr (((r:Int)+1)*(g.w:Int))=(rowOff g r:Int)+(g.w:Int)∧((rowOff g r:Int)+(g.w:Int)).toNat=rowOff g r+g.w∧(0:Int)≤(rowOff g r:Int)+(g.w:Int):=by
 have h1:=row_in o hr
 have h2:=o.le
 have e1:(r:Int)*(g.w:Int)=(rowOff g r:Nat):=by rw [rowOff_def];simp
 have e2:((r:Int)+1)*(g.w:Int)=(rowOff g r:Int)+(g.w:Int):=by rw [Int.add_mul,e1];simp
 rw [e1,e2]
 have:=o.2.1
 exact ⟨wr_id _ (by omega) (by omega),wr_id _ (by omega) (by omega),wr_id _ (by omega) (by omega),by omega,by omega⟩
theorem iw163s (k n:Nat) (H:List Ob) (g:Gd) (o:OkG g) (r:Nat) (hr:r<g.h):(clOf (modsR tab (k+1)) (n+1)).w 163 [gdD g,I r] H=some (.sl 5 (celsD (rowL g r)),H++[.bx [I g.h,I g.w, .sl 5 (celsD g.cells)]]):=by
 obtain ⟨e1,e2,e3,e5,e6⟩:=row_nums o hr
 have e4:=row_in o hr
 rw [cw163,evInl_evB rfl rfl]
 unfold s163
 simp -implicitDefEqProofs [e1,e2,e3,e4,e5,e6,rowL]
theorem iw163r (k n:Nat) (H:List Ob) (g:Gd) (o:OkG g) (id:Nat) (r:Nat) (hr:r<g.h):(clOf (modsR tab (k+1)) (n+1)).w 163 [.agg [I g.h,I g.w, .rf id 5 0 g.cells.length],I r] H=some (.rf id 5 (rowOff g r) g.w,H++[.bx [I g.h,I g.w, .rf id 5 0 g.cells.length]]):=by
 obtain ⟨e1,e2,e3,e5,e6⟩:=row_nums o hr
 have e4:=row_in o hr
 rw [cw163,evInl_evB rfl rfl]
 unfold s163
 simp -implicitDefEqProofs [e1,e2,e3,e4,e5,e6]
theorem ir163r (k n:Nat) (H:List Ob) (g:Gd) (o:OkG g) (id:Nat) (r:Nat) (hr:r<g.h):(clOf (modsR tab (k+1)) (n+1)).r 163 [.agg [I g.h,I g.w, .rf id 5 0 g.cells.length],I r] H=some (.rf id 5 (rowOff g r) g.w):=by
 have w:=iw163r k n (deads (bound [id])) g o id r hr
 rw [cw163] at w
 rw [cr163]
 unfold evInlQ
 simp -implicitDefEqProofs [w]
theorem sp149 (k:Nat) (g:Gd) (o:OkG g) (r c:Nat) (hr:r<g.h) (hc:c<g.w) (x:Cel) (hx:(rowL g r)[c]? = some x):evFun (clOf (modsR tab (k+1)) 3) s149 [gdD g,I r,I c]=some (.tup [celD x,B true],[]):=by
 have w:=sp162 k g r c
 have hr':(r:Int)<g.h:=by omega
 have hc':(c:Int)<g.w:=by omega
 have gx:=celsD_getD hx
 have gx':=celsD_at hx
 simp only [hr',hc',Int.natCast_nonneg,decide_true,Bool.and_true] at w
 have wi:=fun H n=>iw163s k n H g o r hr
 rw [evFun_evB rfl]
 unfold s149
 simp -implicitDefEqProofs [cw162,w,wi,gx,gx',hc,rowL_len o hr]
end Go.Proofs.YtlpchliomdomdaaGreat.LgTab
namespace Go.Proofs.YtlpchliomdomdaaGreat.LgTab
open Go Lg
set_option linter.unusedVariables false
set_option linter.unusedSimpArgs false
set_option maxRecDepth 8000
theorem iw161 (k n:Nat) (H:List Ob) (g:Gd) (o:OkG g) (hl:g.cells.length≤100000) (id:Nat) (hid:id<H.length) (hH:H[id]? = some (.ow true 5 (celsD g.cells))) (r:Nat) (hr:r<g.h) :
  (clOf (modsR tab (k+2)) (n+2)).w 161 [.agg [I g.h,I g.w, .rf id 5 0 g.cells.length],I r] H =
   some (.agg [I g.h,I g.w, .rf id 5 0 g.cells.length],H.set id (.ow true 5 (celsD (setRow g r (mendL (rowL g r))).cells))++[.bx [I g.h,I g.w, .rf id 5 0 g.cells.length], .bx [I g.h,I g.w, .rf id 5 0 g.cells.length], .bx [I g.h,I g.w, .rf id 5 0 g.cells.length], .ow true 5 (celsD (mendL (rowL g r)))]):=by
 have e4:=row_in o hr
 have e5:=rowL_len o hr
 have wi:=fun q H n=>iw163r q n H g o id r hr
 have wq:=fun q H n=>ir163r q n H g o id r hr
 have hw:rowL g r≠[]:=by intro h;rw [h] at e5;have:=o.2.2.1;simp at e5;omega
 have wm:=sp150 k (rowL g r) hw (by omega)
 have e6:(g.cells.drop (rowOff g r)).take g.w=rowL g r:=rfl
 have hg:=get_of hH
 have e7:(mendL (rowL g r)).take g.w=mendL (rowL g r):=List.take_of_length_le (by simp;omega)
 rw [cw161,evInl_evB rfl rfl]
 unfold s161
 simp -implicitDefEqProofs [wi,wq,cw150,wm,e4,e5,e6,e7,hH,hg,hid,List.getElem?_append_left,setRow]
theorem rowOff_cells (g:Gd) (l:List Cel) (r:Nat):rowOff {g with cells:=l} r=rowOff g r:=by simp only [rowOff_def]
theorem rowL_set (g:Gd) (r c:Nat) (y:Cel) (hc:c<g.w):rowL {g with cells:=g.cells.set (rowOff g r+c) y} r=(rowL g r).set c y:=by
 unfold rowL
 simp only [rowOff_cells]
 generalize rowOff g r=A
 apply List.ext_getElem?
 intro i
 simp only [List.getElem?_take,List.getElem?_drop,List.getElem?_set,List.length_take,List.length_drop]
 split
 ·by_cases e:c=i
  ·subst e
   simp only [if_true]
   by_cases h:A+c<g.cells.length
   ·rw [if_pos h,if_pos (by omega)]
   ·rw [if_neg h,if_neg (by omega)]
  ·rw [if_neg (by omega),if_neg e]
 ·split
  ·split
   ·omega
   ·rfl
  ·rfl
theorem setRow_set (g:Gd) (r c:Nat) (y:Cel) (hc:c<g.w) (X:List Cel):setRow {g with cells:=g.cells.set (rowOff g r+c) y} r X=setRow g r X:=by
 unfold setRow
 simp only [rowOff_cells]
 congr 2
 ·congr 1
  apply List.ext_getElem?
  intro i
  simp only [List.getElem?_take,List.getElem?_set]
  split
  ·rw [if_neg (by omega)]
  ·rfl
 ·apply List.ext_getElem?
  intro i
  simp only [List.getElem?_drop,List.getElem?_set]
  rw [if_neg (by omega)]
theorem OkG.cells {g:Gd} (o:OkG g) (l:List Cel) (h:l.length=g.cells.length):OkG {g with cells:=l}:=⟨o.1,o.2.1,o.2.2.1,o.2.2.2.1,by rw [h];exact o.2.2.2.2⟩
theorem OkG.setRow {g:Gd} (o:OkG g) {r:Nat} (hr:r<g.h) (l:List Cel) (hl:l.length=g.w):OkG (setRow g r l):=by
 have:=row_in o hr
 exact o.cells _ (by simp;omega)
def putRow (l:List Cel) (c:Nat) (x:Int) (n:Int) (p:Pn):List Cel:=if n=2 then (l.set c ⟨x,1,p⟩).set (c+1) ⟨0,2,p⟩ else l.set c ⟨x,0,p⟩
@[simp] theorem putRow_len (l:List Cel) (c:Nat) (x:Int) (n:Int) (p:Pn):(putRow l c x n p).length=l.length:=by unfold putRow;split<;>simp
def putG (g:Gd) (r c:Nat) (x:Int) (p:Pn):Gd:=setRow g r (mendL (putRow (rowL g r) c x (widthR x) p))
theorem sp152a (k:Nat) (g:Gd) (o:OkG g) (hl:g.cells.length≤100000) (r c:Nat) (hr:r<g.h) (x:Int) (p:Pn) (hx:widthR x=1) (hc:c+1≤g.w):evFun (clOf (modsR tab (k+3)) 3) s152 [gdD g,I r,I c,R x,pnD p]=some (gdD (putG g r c x p),[]):=by
 have w1:=sp158 (k+1) g o hl
 have w2:=sp109 k x
 rw [hx] at w2
 have w3:=sp162 (k+2) g r c
 have hr':(r:Int)<g.h:=by omega
 have hc':(c:Int)<g.w:=by omega
 simp only [hr',hc',Int.natCast_nonneg,decide_true,Bool.and_true] at w3
 have hc2:¬(g.w:Int)<(c:Int)+1:=by omega
 have hw:=o.2.2.2.1
 have wi:=fun q H n=>iw163r q n H g o 3 r hr
 have e4:=row_in o hr
 have hcw:c<g.w:=by omega
 have hcl:rowOff g r+c<g.cells.length:=by omega
 obtain ⟨y,hy⟩:=get_ex hcl
 have gy:=celsD_getD hy
 have wm:=fun q n H a b=>iw161 q n H {g with cells:=g.cells.set (rowOff g r+c) ⟨x,0,p⟩} (o.cells _ (by simp)) (by simpa using hl) 3 a b r hr
 simp only [rowL_set g r c _ hcw,setRow_set g r c _ hcw,List.length_set] at wm
 have hp:putG g r c x p=setRow g r (mendL ((rowL g r).set c ⟨x,0,p⟩)):=by unfold putG putRow;rw [hx];simp
 have hlen:(setRow g r (mendL ((rowL g r).set c ⟨x,0,p⟩))).cells.length=g.cells.length:=by
  have:=rowL_len o hr
  simp [setRow]
  omega
 rw [hp]
 generalize hG:setRow g r (mendL ((rowL g r).set c ⟨x,0,p⟩))=G at *
 have h1:G.h=g.h:=by rw [←hG];rfl
 have h2:G.w=g.w:=by rw [←hG];rfl
 have tk:G.cells.take g.cells.length=G.cells:=List.take_of_length_le (by omega)
 rw [evFun_evB rfl]
 unfold s152
 simp -implicitDefEqProofs [cw158,w1,cw109,w2,cw162,w3,hc2,wr_id ((c:Int)+1) (by omega) (by omega),wi,hcw,gy,wm,hlen,h1,h2,tk]
theorem sp152b (k:Nat) (g:Gd) (o:OkG g) (hl:g.cells.length≤100000) (r c:Nat) (hr:r<g.h) (x:Int) (p:Pn) (hx:widthR x=2) (hc:c+2≤g.w):evFun (clOf (modsR tab (k+3)) 3) s152 [gdD g,I r,I c,R x,pnD p]=some (gdD (putG g r c x p),[]):=by
 have w1:=sp158 (k+1) g o hl
 have w2:=sp109 k x
 rw [hx] at w2
 have w3:=sp162 (k+2) g r c
 have hr':(r:Int)<g.h:=by omega
 have hc':(c:Int)<g.w:=by omega
 simp only [hr',hc',Int.natCast_nonneg,decide_true,Bool.and_true] at w3
 have hc2:¬(g.w:Int)<(c:Int)+2:=by omega
 have hw:=o.2.2.2.1
 have wi:=fun q H n=>iw163r q n H g o 3 r hr
 have e4:=row_in o hr
 have hcw:c<g.w:=by omega
 have hcw1:c+1<g.w:=by omega
 have hcl:rowOff g r+c<g.cells.length:=by omega
 have hcl1:rowOff g r+(c+1)<g.cells.length:=by omega
 obtain ⟨y,hy⟩:=get_ex hcl
 have gy:=celsD_getD hy
 have hy2:(g.cells.set (rowOff g r+c) ⟨x,0,p⟩)[rowOff g r+c]? = some ⟨x,0,p⟩:=by rw [List.getElem?_set];simp [hcl]
 have gy2:=celsD_getD hy2
 obtain ⟨z,hz⟩:=get_ex (l:=g.cells.set (rowOff g r+c) ⟨x,1,p⟩) (i:=rowOff g r+(c+1)) (by simpa using hcl1)
 have gy3:=celsD_getD hz
 have wm:=fun q n H a b=>iw161 q n H {g with cells:=(g.cells.set (rowOff g r+c) ⟨x,1,p⟩).set (rowOff g r+(c+1)) ⟨0,2,p⟩} (o.cells _ (by simp)) (by simpa using hl) 3 a b r hr
 have v1:=rowL_set {g with cells:=g.cells.set (rowOff g r+c) ⟨x,1,p⟩} r (c+1) ⟨0,2,p⟩ hcw1
 have v2:=setRow_set {g with cells:=g.cells.set (rowOff g r+c) ⟨x,1,p⟩} r (c+1) ⟨0,2,p⟩ hcw1
 simp only [rowOff_cells] at v1 v2
 simp only [v1,v2,rowL_set g r c _ hcw,setRow_set g r c _ hcw,List.length_set] at wm
 have hp:putG g r c x p=setRow g r (mendL (((rowL g r).set c ⟨x,1,p⟩).set (c+1) ⟨0,2,p⟩)):=by unfold putG putRow;rw [hx];simp
 have hlen:(setRow g r (mendL (((rowL g r).set c ⟨x,1,p⟩).set (c+1) ⟨0,2,p⟩))).cells.length=g.cells.length:=by
  have:=rowL_len o hr
  simp [setRow]
  omega
 rw [hp]
 generalize hG:setRow g r (mendL (((rowL g r).set c ⟨x,1,p⟩).set (c+1) ⟨0,2,p⟩))=G at *
 have h1:G.h=g.h:=by rw [←hG];rfl
 have h2:G.w=g.w:=by rw [←hG];rfl
 have tk:G.cells.take g.cells.length=G.cells:=List.take_of_length_le (by omega)
 have q1:((c:Int)+1).toNat=c+1:=by omega
 have q2:(0:Int)≤(c:Int)+1:=by omega
 rw [evFun_evB rfl]
 unfold s152
 simp -implicitDefEqProofs [cw158,w1,cw109,w2,cw162,w3,hc2,wr_id ((c:Int)+2) (by omega) (by omega),wr_id ((c:Int)+1) (by omega) (by omega),q1,q2,wi,hcw,hcw1,gy,gy2,gy3,wm,hlen,h1,h2,tk]
end Go.Proofs.YtlpchliomdomdaaGreat.LgTab
