import Derived.Test.YtlpchliomdomdaaGreatPk22
namespace Go.Proofs.YtlpchliomdomdaaGreat.LgTab
open Go Lg
set_option linter.unusedVariables false
set_option linter.unusedSimpArgs false
set_option maxRecDepth 8000
theorem rowL_get (g:Gd) (r i:Nat):(rowL g r)[i]? = if i<g.w then g.cells[rowOff g r+i]? else none:=by
 show ((g.cells.drop (rowOff g r)).take g.w)[i]? = _
 rw [List.getElem?_take]
 split
 ·rw [List.getElem?_drop]
 ·rfl
theorem grid_ext {g G:Gd} (o:OkG g) (o':OkG G) (h1:G.h=g.h) (h2:G.w=g.w) (hr:∀ y,y<g.h→rowL G y=rowL g y):G=g:=by
 have hl:=o.2.2.2.2
 have hl':=o'.2.2.2.2
 rw [h1,h2] at hl'
 have hw:=o.2.2.1
 have hc:G.cells=g.cells:=by
  apply List.ext_getElem?
  intro i
  rcases Nat.lt_or_ge i (g.h*g.w) with hi | hi
  ·have hm:=Nat.mod_lt i (show 0<g.w by omega)
   have hd:=Nat.div_add_mod i g.w
   have hy:i / g.w<g.h:=by
    rw [Nat.div_lt_iff_lt_mul (by omega)]
    exact hi
   have e:=congrArg (fun l:List Cel=>l[i % g.w]?) (hr (i / g.w) hy)
   simp only [rowL_get] at e
   rw [h2,if_pos hm,if_pos hm,rowOff_w h2,rowOff_def] at e
   have ei:i / g.w*g.w+i % g.w=i:=by rw [Nat.mul_comm];exact hd
   rw [ei] at e
   exact e
  ·rw [List.getElem?_eq_none (by omega),List.getElem?_eq_none (by omega)]
 obtain ⟨h,w,cells⟩:=g
 obtain ⟨h',w',cells'⟩:=G
 simp only at h1 h2 hc
 subst h1
 subst h2
 subst hc
 rfl
theorem mendL_right {l:List Cel} (h:RightRow l):mendL l=l:=by
 apply List.ext_getElem?
 intro i
 cases hx:l[i]? with
 | none=>simp [mendL,hx]
 | some x =>
  rw [mendL_get hx,fit_half hx (h i x hx)]
  rfl
def refPut (l:List Cel) (c:Nat) (x:Int) (n:Nat) (p:Pn):List Cel :=
 let l1:=l.set c ⟨x,if n=2 then 1 else 0,p⟩
 let l2:=if n=2 then l1.set (c+1) ⟨0,2,p⟩ else l1
 let l3:=if 0<c∧kAt l c=2 then l2.set (c-1) (blankC (l.getD (c-1) default).p) else l2
 if c+n<l.length∧kAt l (c+n-1)=1 then l3.set (c+n) (blankC (l.getD (c+n) default).p) else l3
theorem right_left {l:List Cel} (h:RightRow l) {i:Nat} (hk:kAt l i=1):kAt l (i+1)=2:=by
 cases hx:l[i]? with
 | none=>simp [kAt,hx] at hk
 | some x =>
  rw [kAt_some hx] at hk
  obtain ⟨_,⟨h1,_⟩ | ⟨h1,_,d,h2,h3,_⟩ | ⟨h1,_⟩⟩:=h i x hx
  ·omega
  ·rw [kAt_some h2];exact h3
  ·omega
theorem right_right {l:List Cel} (h:RightRow l) {i:Nat} (hk:kAt l i=2):0<i∧kAt l (i-1)=1:=by
 cases hx:l[i]? with
 | none=>simp [kAt,hx] at hk
 | some x =>
  rw [kAt_some hx] at hk
  obtain ⟨_,⟨h1,_⟩ | ⟨h1,_⟩ | ⟨_,_,j,d,h2,h3,h4,_⟩⟩:=h i x hx
  ·omega
  ·omega
  ·subst h2
   exact ⟨by omega,by rw [show j+1-1=j by omega,kAt_some h3];exact h4⟩
theorem kAt_set (l:List Cel) (c:Nat) (y:Cel) (i:Nat) (hc:c<l.length):kAt (l.set c y) i=if c=i then y.k else kAt l i:=by
 unfold kAt
 rw [List.getElem?_set]
 by_cases e:c=i
 ·subst e
  simp [hc]
 ·rw [if_neg e,if_neg e]
theorem kAt_range {l:List Cel} (h:RightRow l) (i:Nat):kAt l i=0∨kAt l i=1∨kAt l i=2:=by
 cases hx:l[i]? with
 | none=>left;simp [kAt,hx]
 | some x =>
  rw [kAt_some hx]
  obtain ⟨_,⟨h1,_⟩ | ⟨h1,_⟩ | ⟨h1,_⟩⟩:=h i x hx<;>omega
theorem getD_of {l:List Cel} {i:Nat} {x:Cel} (h:l[i]? = some x):l.getD i default=x:=by
 rw [List.getD_eq_getElem?_getD,h];rfl
theorem kAt_put (l:List Cel) (c:Nat) (x:Int) (n:Nat) (hn:n=1∨n=2) (hc:c+n≤l.length) (p:Pn) (j:Nat) :
  kAt (putRow l c x n p) j=if j=c then (if n=2 then 1 else 0) else if n=2∧j=c+1 then 2 else kAt l j:=by
 rcases hn with rfl | rfl
 ·have e:putRow l c x ((1:Nat):Int) p=l.set c ⟨x,0,p⟩:=by unfold putRow;rw [if_neg (by decide)]
  rw [e,kAt_set _ _ _ _ (by omega)]
  by_cases h:c=j
  ·rw [if_pos h,if_pos h.symm];rfl
  ·rw [if_neg h,if_neg (fun hh=>h hh.symm),if_neg (by omega)]
 ·have e:putRow l c x ((2:Nat):Int) p=(l.set c ⟨x,1,p⟩).set (c+1) ⟨0,2,p⟩:=by unfold putRow;rw [if_pos (by decide)]
  rw [e,kAt_set _ _ _ _ (by simp;omega),kAt_set _ _ _ _ (by omega)]
  by_cases h:c+1=j
  ·rw [if_pos h,if_neg (by omega),if_pos ⟨rfl,h.symm⟩]
  ·rw [if_neg h]
   by_cases h2:c=j
   ·rw [if_pos h2,if_pos h2.symm];rfl
   ·rw [if_neg h2,if_neg (fun hh=>h2 hh.symm),if_neg (by omega)]
theorem half_put {l:List Cel} (h:RightRow l) (c:Nat) (x:Int) (n:Nat) (hn:n=1∨n=2) (hc:c+n≤l.length) (p:Pn) (i:Nat) (i1:i≠c) (i2:¬(n=2∧i=c+1)) :
  halfB (putRow l c x n p) i=(decide (i+1=c∧kAt l c=2) || decide (i=c+n∧kAt l (i-1)=1)):=by
 have kk:=kAt_put l c x n hn hc p
 have r1:=fun hk=>right_left h (i:=i) hk
 have r2:=fun hk=>right_right h (i:=i) hk
 have q0:kAt (putRow l c x n p) i=kAt l i:=by rw [kk,if_neg i1,if_neg i2]
 have key:halfB l i=false:=by
  unfold halfB
  rcases kAt_range h i with k | k | k
  ·simp [k]
  ·simp [k,r1 k]
  ·have:=r2 k
   have h0:¬i=0:=by omega
   simp [k,this.2,h0]
 by_cases a:i+1=c
 ·have q1:kAt (putRow l c x n p) (i+1)=if n=2 then 1 else 0:=by rw [kk,if_pos a]
  have q2:kAt (putRow l c x n p) (i-1)=kAt l (i-1):=by rw [kk,if_neg (by omega),if_neg (by omega)]
  have q3:¬(if n=2 then (1:Int) else 0)=2:=by split<;>omega
  have q4:¬i=c+n:=by omega
  unfold halfB
  rw [q0,q1,q2]
  rcases kAt_range h i with k | k | k
  ·have k2:¬kAt l c=2:=fun hh=>by have:=(right_right h hh).2;rw [←a,Nat.add_sub_cancel,k] at this;omega
   simp [k,k2,q4]
  ·have k2:kAt l c=2:=by rw [←a];exact r1 k
   simp [k,k2,q3,a]
  ·have k2:¬kAt l c=2:=fun hh=>by have:=(right_right h hh).2;rw [←a,Nat.add_sub_cancel,k] at this;omega
   have:=r2 k
   have h0:¬i=0:=by omega
   simp [k,k2,q4,this.2,h0]
 ·by_cases b:i=c+n
  ·have q1:kAt (putRow l c x n p) (i+1)=kAt l (i+1):=by rw [kk,if_neg (by omega),if_neg (by omega)]
   have q2:¬kAt (putRow l c x n p) (i-1)=1:=by
    rw [kk]
    rcases hn with rfl | rfl
    ·rw [if_pos (by omega)];decide
    ·rw [if_neg (by omega),if_pos ⟨rfl,by omega⟩];decide
   have h0:¬i=0:=by omega
   have e1:i-1+1=i:=by omega
   unfold halfB
   rw [q0,q1]
   rcases kAt_range h i with k | k | k
   ·have k2:¬kAt l (i-1)=1:=fun hh=>by have:=right_left h hh;rw [e1,k] at this;omega
    simp [k,k2,a]
   ·have k2:¬kAt l (i-1)=1:=fun hh=>by have:=right_left h hh;rw [e1,k] at this;omega
    simp [k,k2,a,r1 k]
   ·have k2:=(r2 k).2
    have hd:decide (i=c+n∧kAt l (i-1)=1)=true:=decide_eq_true ⟨b,k2⟩
    have hf:decide (kAt (putRow l c x n p) (i-1)=1)=false:=decide_eq_false q2
    rw [hd,k,hf]
    simp [h0]
  ·have q1:kAt (putRow l c x n p) (i+1)=kAt l (i+1):=by rw [kk,if_neg a,if_neg (by omega)]
   have q2:i=0∨kAt (putRow l c x n p) (i-1)=kAt l (i-1):=by
    rcases Nat.eq_zero_or_pos i with h0 | h0
    ·exact .inl h0
    ·right
     rw [kk,if_neg (by omega),if_neg (by omega)]
   have e:halfB (putRow l c x n p) i=halfB l i:=by
    unfold halfB
    rw [q0,q1]
    rcases q2 with q2 | q2
    ·simp [q2]
    ·rw [q2]
   rw [e,key]
   simp [a,b]
def putAt (l:List Cel) (c:Nat) (x:Int) (n:Nat) (p:Pn) (i:Nat) (y:Cel):Cel :=
 if i=c then ⟨x,if n=2 then 1 else 0,p⟩ else if n=2∧i=c+1 then ⟨0,2,p⟩ else if (i+1=c∧kAt l c=2)∨(i=c+n∧kAt l (i-1)=1) then blankC y.p else y
theorem putRow_get {l:List Cel} (c:Nat) (x:Int) (n:Nat) (hn:n=1∨n=2) (hc:c+n≤l.length) (p:Pn) {i:Nat} {y:Cel} (hy:l[i]? = some y) :
  (putRow l c x n p)[i]? = some (if i=c then ⟨x,if n=2 then 1 else 0,p⟩ else if n=2∧i=c+1 then ⟨0,2,p⟩ else y):=by
 rcases hn with rfl | rfl
 ·have e:putRow l c x ((1:Nat):Int) p=l.set c ⟨x,0,p⟩:=by unfold putRow;rw [if_neg (by decide)]
  rw [e,List.getElem?_set]
  by_cases h:c=i
  ·rw [if_pos h,if_pos (by omega),if_pos h.symm];rfl
  ·rw [if_neg h,if_neg (fun hh=>h hh.symm),if_neg (by omega),hy]
 ·have e:putRow l c x ((2:Nat):Int) p=(l.set c ⟨x,1,p⟩).set (c+1) ⟨0,2,p⟩:=by unfold putRow;rw [if_pos (by decide)]
  rw [e,List.getElem?_set,List.getElem?_set]
  by_cases h:c+1=i
  ·rw [if_pos h,if_pos (by simp;omega),if_neg (by omega),if_pos ⟨rfl,h.symm⟩]
  ·rw [if_neg h]
   by_cases h2:c=i
   ·rw [if_pos h2,if_pos (by omega),if_pos h2.symm];rfl
   ·rw [if_neg h2,if_neg (fun hh=>h2 hh.symm),if_neg (by omega),hy]
theorem put_mend_get {l:List Cel} (h:RightRow l) (c:Nat) (x:Int) (n:Nat) (hn:n=1∨n=2) (hc:c+n≤l.length) (p:Pn) {i:Nat} {y:Cel} (hy:l[i]? = some y) :
  (mendL (putRow l c x n p))[i]? = some (putAt l c x n p i y):=by
 have kk:=kAt_put l c x n hn hc p
 rw [mendL_get (putRow_get c x n hn hc p hy)]
 unfold putAt
 by_cases e1:i=c
 ·subst e1
  have hf:halfB (putRow l i x n p) i=false:=by
   unfold halfB
   have q1:=kk i
   have q2:=kk (i+1)
   rw [if_pos rfl] at q1
   rw [if_neg (by omega)] at q2
   rw [q1,q2]
   rcases hn with rfl | rfl
   ·simp
   ·simp
  rw [hf]
  simp
 ·by_cases e2:n=2∧i=c+1
  ·obtain ⟨rfl,rfl⟩:=e2
   have hf:halfB (putRow l c x ((2:Nat):Int) p) (c+1)=false:=by
    unfold halfB
    have q1:=kk (c+1)
    have q2:=kk c
    rw [if_neg (by omega),if_pos ⟨rfl,rfl⟩] at q1
    rw [if_pos rfl] at q2
    have e3:c+1-1=c:=by omega
    rw [q1,e3,q2]
    simp
   rw [hf]
   simp
  ·rw [half_put h c x n hn hc p i e1 e2]
   simp only [if_neg e1,if_neg e2]
   by_cases e3:(i+1=c∧kAt l c=2)∨(i=c+n∧kAt l (i-1)=1)
   ·rw [if_pos e3]
    have:(decide (i+1=c∧kAt l c=2) || decide (i=c+n∧kAt l (i-1)=1))=true:=by
     rcases e3 with e3 | e3
     ·rw [decide_eq_true e3];rfl
     ·rw [decide_eq_true e3,Bool.or_true]
    rw [this]
    rfl
   ·rw [if_neg e3]
    have:(decide (i+1=c∧kAt l c=2) || decide (i=c+n∧kAt l (i-1)=1))=false:=by
     rw [decide_eq_false (fun h=>e3 (.inl h)),decide_eq_false (fun h=>e3 (.inr h))];rfl
    rw [this]
    rfl
theorem put_ref_get {l:List Cel} (c:Nat) (x:Int) (n:Nat) (hn:n=1∨n=2) (hc:c+n≤l.length) (p:Pn) {i:Nat} {y:Cel} (hy:l[i]? = some y) :
  (refPut l c x n p)[i]? = some (putAt l c x n p i y):=by
 have hi:=(List.getElem?_eq_some_iff.1 hy).1
 have gd:=getD_of hy
 have L2:∀ j:Nat,(if n=2 then (l.set c ⟨x,if n=2 then 1 else 0,p⟩).set (c+1) ⟨0,2,p⟩ else l.set c ⟨x,if n=2 then 1 else 0,p⟩)=putRow l c x n p:=by
  intro j
  unfold putRow
  rcases hn with rfl | rfl
  ·rw [if_neg (by decide),if_neg (by decide),if_neg (by decide)]
  ·rw [if_pos rfl,if_pos rfl,if_pos (by decide)]
 have hg:=putRow_get c x n hn hc p hy
 have hlen:(putRow l c x n p).length=l.length:=putRow_len' _ _ _ _ _
 unfold refPut
 simp only
 rw [L2 0]
 generalize putRow l c x n p=L at *
 have s1:∀ (X:List Cel) (k:Nat) (z:Cel),X.length=l.length→(X.set k z)[i]? = if k=i then some z else X[i]?:=by
  intro X k z hX
  rw [List.getElem?_set]
  by_cases e:k=i
  ·rw [if_pos e,if_pos e,if_pos (by omega)]
  ·rw [if_neg e,if_neg e]
 unfold putAt
 by_cases a:0<c∧kAt l c=2
 ·rw [if_pos a]
  by_cases b:c+n<l.length∧kAt l (c+n-1)=1
  ·rw [if_pos b,s1 _ _ _ (by simp [hlen]),s1 _ _ _ hlen,hg]
   by_cases e1:c+n=i
   ·rw [if_pos e1,if_neg (by omega),if_neg (by omega),if_pos (.inr ⟨e1.symm,by rw [←e1];exact b.2⟩),e1,gd]
   ·rw [if_neg e1]
    by_cases e2:c-1=i
    ·rw [if_pos e2,if_neg (by omega),if_neg (by omega),if_pos (.inl ⟨by omega,a.2⟩),e2,gd]
    ·rw [if_neg e2]
     by_cases e3:i=c
     ·rw [if_pos e3,if_pos e3]
     ·rw [if_neg e3,if_neg e3]
      by_cases e4:n=2∧i=c+1
      ·rw [if_pos e4,if_pos e4]
      ·rw [if_neg e4,if_neg e4,if_neg (by omega)]
  ·rw [if_neg b,s1 _ _ _ hlen,hg]
   by_cases e2:c-1=i
   ·rw [if_pos e2,if_neg (by omega),if_neg (by omega),if_pos (.inl ⟨by omega,a.2⟩),e2,gd]
   ·rw [if_neg e2]
    by_cases e3:i=c
    ·rw [if_pos e3,if_pos e3]
    ·rw [if_neg e3,if_neg e3]
     by_cases e4:n=2∧i=c+1
     ·rw [if_pos e4,if_pos e4]
     ·rw [if_neg e4,if_neg e4,if_neg]
      rintro (h | h)
      ·omega
      ·exact b ⟨by omega,by rw [←h.1];exact h.2⟩
 ·rw [if_neg a]
  by_cases b:c+n<l.length∧kAt l (c+n-1)=1
  ·rw [if_pos b,s1 _ _ _ hlen,hg]
   by_cases e1:c+n=i
   ·rw [if_pos e1,if_neg (by omega),if_neg (by omega),if_pos (.inr ⟨e1.symm,by rw [←e1];exact b.2⟩),e1,gd]
   ·rw [if_neg e1]
    by_cases e3:i=c
    ·rw [if_pos e3,if_pos e3]
    ·rw [if_neg e3,if_neg e3]
     by_cases e4:n=2∧i=c+1
     ·rw [if_pos e4,if_pos e4]
     ·rw [if_neg e4,if_neg e4,if_neg]
      rintro (h | h)
      ·exact a ⟨by omega,h.2⟩
      ·omega
  ·rw [if_neg b,hg]
   by_cases e3:i=c
   ·rw [if_pos e3,if_pos e3]
   ·rw [if_neg e3,if_neg e3]
    by_cases e4:n=2∧i=c+1
    ·rw [if_pos e4,if_pos e4]
    ·rw [if_neg e4,if_neg e4,if_neg]
     rintro (h | h)
     ·exact a ⟨by omega,h.2⟩
     ·exact b ⟨by omega,by rw [←h.1];exact h.2⟩
theorem refPut_len (l:List Cel) (c:Nat) (x:Int) (n:Nat) (p:Pn):(refPut l c x n p).length=l.length:=by
 unfold refPut
 simp only
 repeat' split
 all_goals simp
theorem put_ref {l:List Cel} (h:RightRow l) (c:Nat) (x:Int) (n:Nat) (hn:n=1∨n=2) (hc:c+n≤l.length) (p:Pn):mendL (putRow l c x n p)=refPut l c x n p:=by
 apply List.ext_getElem?
 intro i
 rcases Nat.lt_or_ge i l.length with hi | hi
 ·obtain ⟨y,hy⟩:=get_ex hi
  rw [put_mend_get h c x n hn hc p hy,put_ref_get c x n hn hc p hy]
 ·rw [List.getElem?_eq_none (by rw [mendL_len',putRow_len'];exact hi),List.getElem?_eq_none (by rw [refPut_len];exact hi)]
end Go.Proofs.YtlpchliomdomdaaGreat.LgTab
