import Derived.Test.YtlpchliomdomdaaGreatPt27
namespace Go.Proofs.YtlpchliomdomdaaGreat.LgTab
open Go Lg
set_option linter.unusedVariables false
set_option linter.unusedSimpArgs false
set_option maxRecDepth 8000
def shVal (H:List Cel) (c:Nat) (n:Int) (p:Pn) (j:Nat):Cel:=if (c:Int)≤j-n∧(j:Int)-n<H.length then H.getD ((j:Int)-n).toNat default else blankC p
def shL (H:List Cel) (c:Nat) (n:Int) (p:Pn):Nat→List Cel
 | 0=>H
 | i+1=>(shL H c n p i).set (c+i) (shVal H c n p (c+i))
theorem shL_len (H:List Cel) (c:Nat) (n:Int) (p:Pn):∀ i,(shL H c n p i).length=H.length
 | 0=>rfl
 | i+1=>by
  have ih:=shL_len H c n p i
  simp [shL,ih]
theorem shL_get (H:List Cel) (c:Nat) (n:Int) (p:Pn) {j:Nat} {z:Cel} (hz:H[j]? = some z):∀ i,(shL H c n p i)[j]? = some (if c≤j∧j<c+i then shVal H c n p j else z)
 | 0=>by rw [if_neg (by omega)];exact hz
 | i+1=>by
  have ih:=shL_get H c n p hz i
  show ((shL H c n p i).set (c+i) (shVal H c n p (c+i)))[j]? = _
  rw [set_get _ _ _ _ _ ih]
  by_cases e:c+i=j
  ·rw [if_pos e,if_pos (by omega),e]
  ·rw [if_neg e]
   by_cases h:c≤j∧j<c+i
   ·rw [if_pos h,if_pos (by omega)]
   ·rw [if_neg h,if_neg (by omega)]
theorem sh_in {l:List Cel} {c:Nat} (hc:c<l.length) {n:Int} (hn:1≤n) (p:Pn) (m:Nat) (hm:m=(min n ((l.length:Int)-c)).toNat):shL (partRow l c) c n p (l.length-c)=inRow l c m p:=by
 have hl:=part_len l c
 unfold inRow
 rw [hl.symm] at hm hc ⊢
 generalize partRow l c=H at *
 rw [hl]
 rw [hl] at hm hc
 apply List.ext_getElem?
 intro j
 rcases Nat.lt_or_ge j l.length with hj | hj
 ·obtain ⟨z,hz⟩:=get_ex (l:=H) (i:=j) (by omega)
  rw [shL_get H c n p hz]
  have lt:(List.take c H).length=c:=by rw [List.length_take];omega
  by_cases h1:j<c
  ·rw [if_neg (by omega),List.getElem?_append_left (by simp;omega),List.getElem?_append_left (by omega),List.getElem?_take_of_lt h1,hz]
  ·rw [if_pos (by omega)]
   unfold shVal
   by_cases h2:j<c+m
   ·rw [if_neg (by omega),List.getElem?_append_left (by simp;omega),List.getElem?_append_right (by omega),lt,List.getElem?_replicate,if_pos (by omega)]
   ·rw [if_pos (by omega),List.getElem?_append_right (by simp;omega)]
    have e:j-(List.take c H++List.replicate m (blankC p)).length=j-(c+m):=by simp;omega
    rw [e,List.getElem?_drop,List.getElem?_take_of_lt (by omega)]
    have e2:c+(j-(c+m))=((j:Int)-n).toNat:=by omega
    rw [e2]
    obtain ⟨y,hy⟩:=get_ex (l:=H) (i:=((j:Int)-n).toNat) (by omega)
    rw [hy,getD_of hy]
 ·rw [List.getElem?_eq_none (by rw [shL_len];omega),List.getElem?_eq_none (by simp;omega)]
theorem sh_de {l:List Cel} {c:Nat} (hc:c<l.length) {n:Int} (hn:1≤n) (p:Pn) (m:Nat) (hm:m=(min n ((l.length:Int)-c)).toNat):shL (partRow l c) c (-n) p (l.length-c)=deRow l c m p:=by
 have hl:=part_len l c
 unfold deRow
 generalize partRow l c=H at *
 apply List.ext_getElem?
 intro j
 rcases Nat.lt_or_ge j l.length with hj | hj
 ·obtain ⟨z,hz⟩:=get_ex (l:=H) (i:=j) (by omega)
  rw [shL_get H c (-n) p hz]
  have lt:(List.take c H).length=c:=by rw [List.length_take];omega
  have ld:(List.drop (c+m) H).length=l.length-(c+m):=by rw [List.length_drop];omega
  by_cases h1:j<c
  ·rw [if_neg (by omega),List.getElem?_append_left (by simp;omega),List.getElem?_append_left (by omega),List.getElem?_take_of_lt h1,hz]
  ·rw [if_pos (by omega)]
   unfold shVal
   by_cases h2:j+m<l.length
   ·rw [if_pos (by omega),List.getElem?_append_left (by rw [List.length_append,lt,ld];omega),List.getElem?_append_right (by omega),lt,List.getElem?_drop]
    have e2:c+m+(j-c)=((j:Int) - -n).toNat:=by omega
    rw [e2]
    obtain ⟨y,hy⟩:=get_ex (l:=H) (i:=((j:Int) - -n).toNat) (by omega)
    rw [hy,getD_of hy]
   ·rw [if_neg (by omega),List.getElem?_append_right (by rw [List.length_append,lt,ld];omega),List.getElem?_replicate,if_pos (by rw [List.length_append,lt,ld];omega)]
 ·rw [List.getElem?_eq_none (by rw [shL_len];omega),List.getElem?_eq_none (by simp;omega)]
set_option maxHeartbeats 8000000 in
theorem sp295w (k:Nat) (g:Gd) (o:OkG g) (hgl:g.cells.length≤100000) (r c:Nat) (hr:r<g.h) (hc:c<g.w) (n:Int) (hn : -100000≤n∧n≤100000) (p:Pn):evFun (clOf (modsR tab (k+2)) 3) s295 [gdD g,I r,I c,I n,pnD p]=some (gdD (setRow g r (mendL (shL (partRow (rowL g r) c) c n p (g.w-c)))),[]):=by
 have hl:=rowL_len o hr
 have hw:=o.2.2.2.1
 have w313:=fun q=>sp313 q g o r hr
 have hpl:=part_len (rowL g r) c
 have w287:=fun q=>sp287 q (shL (partRow (rowL g r) c) c n p (g.w-c)) (by rw [shL_len,part_len];omega)
 have w315:=fun q=>sp315 q g o hgl r hr (mendL (shL (partRow (rowL g r) c) c n p (g.w-c))) (by rw [mendL_len',shL_len,part_len,hl])
 have c0:¬(r:Int)<0:=by omega
 have c1:¬(g.h:Int)≤r:=by omega
 have c1n:¬g.h≤r:=by omega
 have c2:¬(c:Int)<0:=by omega
 have c3:¬(g.w:Int)≤c:=by omega
 have c3n:¬g.w≤c:=by omega
 have b1:(rowL g r).length*40≤140737488355328:=by omega
 obtain ⟨⟨ycr,yck,⟨ycf,ycb,ycg⟩⟩,hyc⟩:=get_ex (l:=rowL g r) (i:=c) (by omega)
 have kc:=kAt_some hyc
 have w283p:=fun q=>sp283 q p
 obtain ⟨pf,pb,pg⟩:=p
 generalize hL:rowL g r=L at *
 have ac:=celsD_at hyc
 have f0:=celsD_getD hyc
 have hcl:c<L.length:=by omega
 have loop:∀ (H:List Cel),H.length=L.length→∀ i,i<g.w-c→∃ x y z:Cel,(shL H c n ⟨pf,pb,pg⟩ i)[c+i]? = some x∧shL H c n ⟨pf,pb,pg⟩ (i+1)=(shL H c n ⟨pf,pb,pg⟩ i).set (c+i) (shVal H c n ⟨pf,pb,pg⟩ (c+i)):=by
  intro H hH i hi
  obtain ⟨x,hx⟩:=get_ex (l:=shL H c n ⟨pf,pb,pg⟩ i) (i:=c+i) (by rw [shL_len];omega)
  exact ⟨x,x,x,hx,rfl⟩
 have hs0:∀ H,shL H c n ⟨pf,pb,pg⟩ 0=H:=fun H=>rfl
 have hsl:∀ H i,(shL H c n ⟨pf,pb,pg⟩ i).length=H.length:=fun H i=>shL_len _ _ _ _ _
 obtain ⟨N,hN⟩:∃ N,N=g.w-c:=⟨_,rfl⟩
 rw [←hN] at w287 w315 loop ⊢
 clear loop
 rw [evFun_evB rfl]
 unfold s295
 by_cases ka:yck=2∧0<c
 ·obtain ⟨⟨ypr,ypk,⟨ypf,ypb,ypg⟩⟩,hyp⟩:=get_ex (l:=L) (i:=c-1) (by omega)
  have ek:partRow L c=(L.set (c-1) (blankC ⟨ypf,ypb,ypg⟩)).set c (blankC ⟨ycf,ycb,ycg⟩):=by
   unfold partRow
   rw [if_pos ⟨by rw [kc];exact ka.1,ka.2⟩,getD_of hyp,getD_of hyc]
  have w283a:=fun q=>sp283 q ⟨ypf,ypb,ypg⟩
  have w283b:=fun q=>sp283 q ⟨ycf,ycb,ycg⟩
  obtain ⟨d,hd⟩:∃ d,d=c-1:=⟨_,rfl⟩
  have ep:wr ((c:Int)-1)=(d:Int):=by rw [wr_id _ (by omega) (by omega)];omega
  rw [←hd] at hyp ek
  have ap:=celsD_at hyp
  have fp:=celsD_getD hyp
  have np:d<L.length:=by omega
  have hc0:(0:Int)<c:=by omega
  have ka1:=ka.1
  have ka2:=ka.2
  obtain ⟨L1,s1⟩:∃ L1,L.set d ⟨32,0,⟨ypf,ypb,ypg⟩⟩=L1:=⟨_,rfl⟩
  have q1:=set_get L d c ⟨32,0,⟨ypf,ypb,ypg⟩⟩ _ hyc
  rw [s1,if_neg (by omega)] at q1
  have f1:=celsD_getD q1
  have l1:L1.length=L.length:=by rw [←s1];simp
  obtain ⟨H,s2⟩:∃ H,L1.set c ⟨32,0,⟨ycf,ycb,ycg⟩⟩=H:=⟨_,rfl⟩
  have l2:H.length=L.length:=by rw [←s2];simp [l1]
  have eH:partRow L c=H:=by rw [ek,←s2,←s1];rfl
  rw [eH] at w287 w315 ⊢
  have tk:H.take L.length=H:=List.take_of_length_le (by omega)
  simp -implicitDefEqProofs [c0,c1,c1n,c2,c3,c3n,cw313,cr313,w313,b1,ac,f0,hcl,eq_true ka1,ka2,hc0,ep,ap,fp,np,cw283,cr283,w283a,w283b,blankC,s1,f1,l1,s2,l2,tk]
  refine evB_for (fun i=>[I r,I c,I n, .sl 5 (celsD H),I ((c+i:Nat):Int), .obx [I g.h,I g.w, .sl 5 (celsD g.cells)], .obx [I pf,I pb,I pg], .obx [I 0,I 0, .sn], .osl true 5 (celsD (shL H c n ⟨pf,pb,pg⟩ i))]) N (.exit 0)
   [I r,I c,I n, .sl 5 (celsD H),I ((c+N:Nat):Int), .obx [I g.h,I g.w, .sl 5 (celsD g.cells)], .obx [I pf,I pb,I pg], .obx [I 0,I 0, .sn], .osl true 5 (celsD (shL H c n ⟨pf,pb,pg⟩ N))] ?_ (fun i hi=>?_) ?_ (by simp) (by simp [rounds];omega) ?_
  ·simp -implicitDefEqProofs [hs0,tk,l2]
  ·have hx1:=hsl H i
   obtain ⟨x,hx⟩:=get_ex (l:=shL H c n ⟨pf,pb,pg⟩ i) (i:=c+i) (by omega)
   have fx:=celsD_getD hx
   have es:shL H c n ⟨pf,pb,pg⟩ (i+1)=(shL H c n ⟨pf,pb,pg⟩ i).set (c+i) (shVal H c n ⟨pf,pb,pg⟩ (c+i)):=rfl
   have et:c+(i+1)=c+i+1:=rfl
   rw [es,et]
   have hlt:((c+i:Nat):Int)<g.w:=by omega
   have hltn:c+i<g.w:=by omega
   have hltl:c+i<L.length:=by omega
   have e1:wr (((c+i:Nat):Int)+1)=((c+i+1:Nat):Int):=by rw [wr_id _ (by omega) (by omega)];omega
   have e0:wr (((c+i:Nat):Int)-n)=((c+i:Nat):Int)-n:=wr_id _ (by omega) (by omega)
   have j0:(0:Int)≤((c+i:Nat):Int):=by omega
   have q5:=set_get (shL H c n ⟨pf,pb,pg⟩ i) (c+i) (c+i) ⟨32,0,⟨pf,pb,pg⟩⟩ x hx
   rw [if_pos rfl] at q5
   have f5:=celsD_getD q5
   have f5a:=celsD_at q5
   have lx:((shL H c n ⟨pf,pb,pg⟩ i).set (c+i) ⟨32,0,⟨pf,pb,pg⟩⟩).length=L.length:=by rw [List.length_set];omega
   have ss:∀ y:Cel,((shL H c n ⟨pf,pb,pg⟩ i).set (c+i) ⟨32,0,⟨pf,pb,pg⟩⟩).set (c+i) y=(shL H c n ⟨pf,pb,pg⟩ i).set (c+i) y:=fun y=>List.set_set ..
   unfold shVal
   by_cases hin:(c:Int)≤((c+i:Nat):Int)-n∧((c+i:Nat):Int)-n<H.length
   ·rw [if_pos hin]
    obtain ⟨f,hf⟩:∃ f:Nat,((c+i:Nat):Int)-n=(f:Int):=⟨(((c+i:Nat):Int)-n).toNat,by omega⟩
    obtain ⟨⟨yr,yk,⟨yf,yb,yg⟩⟩,hy⟩:=get_ex (l:=H) (i:=f) (by omega)
    have ay:=celsD_at hy
    have i1:(c:Int)≤f:=by omega
    have i1n:c≤f:=by omega
    have i2:(f:Int)<g.w:=by omega
    have i2n:f<g.w:=by omega
    have i2l:f<L.length:=by omega
    rw [hf,Int.toNat_natCast,getD_of hy]
    have e0f:wr (((c+i:Nat):Int)-n)=(f:Int):=e0.trans hf
    clear e0
    generalize hX:shL H c n ⟨pf,pb,pg⟩ i=X at *
    generalize c+i=j at *
    obtain ⟨X1,s3⟩:∃ X1,X.set j ⟨32,0,⟨pf,pb,pg⟩⟩=X1:=⟨_,rfl⟩
    rw [s3] at f5 f5a lx ss
    have s4:=ss ⟨yr,yk,⟨yf,yb,yg⟩⟩
    clear ss
    simp -implicitDefEqProofs [hlt,hltn,hltl,hx1,l2,fx,e0f,e1,j0,cw283,cr283,w283p,blankC,s3,f5,f5a,lx,i1,i1n,i2,i2n,i2l,ay,s4]
   ·rw [if_neg hin]
    have hcase:((c+i:Nat):Int)-n<c∨((c:Int)≤((c+i:Nat):Int)-n∧¬((c+i:Nat):Int)-n<g.w):=by omega
    generalize shL H c n ⟨pf,pb,pg⟩ i=X at *
    generalize c+i=j at *
    generalize hF:(j:Int)-n=F at *
    rcases hcase with h1 | ⟨h1,h2⟩
    ·have h1':¬(c:Int)≤F:=by omega
     simp -implicitDefEqProofs [hlt,hltn,hltl,hx1,l2,fx,hF,e0,e1,j0,cw283,cr283,w283p,blankC,h1']
    ·simp -implicitDefEqProofs [hlt,hltn,hltl,hx1,l2,fx,hF,e0,e1,j0,cw283,cr283,w283p,blankC,h1,h2]
  ·have hge:¬((c:Int)+(N:Int))<g.w:=by omega
   simp -implicitDefEqProofs [hge]
  ·generalize shL H c n ⟨pf,pb,pg⟩ N=X at *
   generalize mendL X=M at *
   generalize setRow g r M=G' at *
   simp -implicitDefEqProofs [cw287,cr287,w287,cw315,cr315,w315]
 ·have ek:partRow L c=L:=by
   unfold partRow
   rw [if_neg (by rw [kc];exact ka)]
  rw [ek] at w287 w315 ⊢
  have l2:L.length=L.length:=rfl
  have tk:L.take L.length=L:=List.take_of_length_le (Nat.le_refl _)
  by_cases k2:yck=2
  ·have hc0:¬(0:Int)<c:=fun h=>ka ⟨k2,by omega⟩
   have hc0n:¬0<c:=fun h=>ka ⟨k2,h⟩
   simp -implicitDefEqProofs [c0,c1,c1n,c2,c3,c3n,cw313,cr313,w313,b1,ac,f0,hcl,eq_true k2,hc0,hc0n,tk]
   refine evB_for (fun i=>[I r,I c,I n, .sl 5 (celsD L),I ((c+i:Nat):Int), .obx [I g.h,I g.w, .sl 5 (celsD g.cells)], .obx [I pf,I pb,I pg], .obx [I 0,I 0, .sn], .osl true 5 (celsD (shL L c n ⟨pf,pb,pg⟩ i))]) N (.exit 0)
    [I r,I c,I n, .sl 5 (celsD L),I ((c+N:Nat):Int), .obx [I g.h,I g.w, .sl 5 (celsD g.cells)], .obx [I pf,I pb,I pg], .obx [I 0,I 0, .sn], .osl true 5 (celsD (shL L c n ⟨pf,pb,pg⟩ N))] ?_ (fun i hi=>?_) ?_ (by simp) (by simp [rounds];omega) ?_
   ·simp -implicitDefEqProofs [hs0,tk]
   ·have hx1:=hsl L i
    obtain ⟨x,hx⟩:=get_ex (l:=shL L c n ⟨pf,pb,pg⟩ i) (i:=c+i) (by omega)
    have fx:=celsD_getD hx
    have es:shL L c n ⟨pf,pb,pg⟩ (i+1)=(shL L c n ⟨pf,pb,pg⟩ i).set (c+i) (shVal L c n ⟨pf,pb,pg⟩ (c+i)):=rfl
    have et:c+(i+1)=c+i+1:=rfl
    rw [es,et]
    have hlt:((c+i:Nat):Int)<g.w:=by omega
    have hltn:c+i<g.w:=by omega
    have hltl:c+i<L.length:=by omega
    have e1:wr (((c+i:Nat):Int)+1)=((c+i+1:Nat):Int):=by rw [wr_id _ (by omega) (by omega)];omega
    have e0:wr (((c+i:Nat):Int)-n)=((c+i:Nat):Int)-n:=wr_id _ (by omega) (by omega)
    have j0:(0:Int)≤((c+i:Nat):Int):=by omega
    have q5:=set_get (shL L c n ⟨pf,pb,pg⟩ i) (c+i) (c+i) ⟨32,0,⟨pf,pb,pg⟩⟩ x hx
    rw [if_pos rfl] at q5
    have f5:=celsD_getD q5
    have f5a:=celsD_at q5
    have lx:((shL L c n ⟨pf,pb,pg⟩ i).set (c+i) ⟨32,0,⟨pf,pb,pg⟩⟩).length=L.length:=by rw [List.length_set];omega
    have ss:∀ y:Cel,((shL L c n ⟨pf,pb,pg⟩ i).set (c+i) ⟨32,0,⟨pf,pb,pg⟩⟩).set (c+i) y=(shL L c n ⟨pf,pb,pg⟩ i).set (c+i) y:=fun y=>List.set_set ..
    unfold shVal
    by_cases hin:(c:Int)≤((c+i:Nat):Int)-n∧((c+i:Nat):Int)-n<L.length
    ·rw [if_pos hin]
     obtain ⟨f,hf⟩:∃ f:Nat,((c+i:Nat):Int)-n=(f:Int):=⟨(((c+i:Nat):Int)-n).toNat,by omega⟩
     obtain ⟨⟨yr,yk,⟨yf,yb,yg⟩⟩,hy⟩:=get_ex (l:=L) (i:=f) (by omega)
     have ay:=celsD_at hy
     have i1:(c:Int)≤f:=by omega
     have i1n:c≤f:=by omega
     have i2:(f:Int)<g.w:=by omega
     have i2n:f<g.w:=by omega
     have i2l:f<L.length:=by omega
     rw [hf,Int.toNat_natCast,getD_of hy]
     have e0f:wr (((c+i:Nat):Int)-n)=(f:Int):=e0.trans hf
     clear e0
     generalize hX:shL L c n ⟨pf,pb,pg⟩ i=X at *
     generalize c+i=j at *
     obtain ⟨X1,s3⟩:∃ X1,X.set j ⟨32,0,⟨pf,pb,pg⟩⟩=X1:=⟨_,rfl⟩
     rw [s3] at f5 f5a lx ss
     have s4:=ss ⟨yr,yk,⟨yf,yb,yg⟩⟩
     clear ss
     simp -implicitDefEqProofs [hlt,hltn,hltl,hx1,fx,e0f,e1,j0,cw283,cr283,w283p,blankC,s3,f5,f5a,lx,i1,i1n,i2,i2n,i2l,ay,s4]
    ·rw [if_neg hin]
     have hcase:((c+i:Nat):Int)-n<c∨((c:Int)≤((c+i:Nat):Int)-n∧¬((c+i:Nat):Int)-n<g.w):=by omega
     generalize shL L c n ⟨pf,pb,pg⟩ i=X at *
     generalize c+i=j at *
     generalize hF:(j:Int)-n=F at *
     rcases hcase with h1 | ⟨h1,h2⟩
     ·have h1':¬(c:Int)≤F:=by omega
      simp -implicitDefEqProofs [hlt,hltn,hltl,hx1,fx,hF,e0,e1,j0,cw283,cr283,w283p,blankC,h1']
     ·simp -implicitDefEqProofs [hlt,hltn,hltl,hx1,fx,hF,e0,e1,j0,cw283,cr283,w283p,blankC,h1,h2]
   ·have hge:¬((c:Int)+(N:Int))<g.w:=by omega
    simp -implicitDefEqProofs [hge]
   ·generalize shL L c n ⟨pf,pb,pg⟩ N=X at *
    generalize mendL X=M at *
    generalize setRow g r M=G' at *
    simp -implicitDefEqProofs [cw287,cr287,w287,cw315,cr315,w315]
  ·simp -implicitDefEqProofs [c0,c1,c1n,c2,c3,c3n,cw313,cr313,w313,b1,ac,f0,hcl,k2,tk]
   refine evB_for (fun i=>[I r,I c,I n, .sl 5 (celsD L),I ((c+i:Nat):Int), .obx [I g.h,I g.w, .sl 5 (celsD g.cells)], .obx [I pf,I pb,I pg], .obx [I 0,I 0, .sn], .osl true 5 (celsD (shL L c n ⟨pf,pb,pg⟩ i))]) N (.exit 0)
    [I r,I c,I n, .sl 5 (celsD L),I ((c+N:Nat):Int), .obx [I g.h,I g.w, .sl 5 (celsD g.cells)], .obx [I pf,I pb,I pg], .obx [I 0,I 0, .sn], .osl true 5 (celsD (shL L c n ⟨pf,pb,pg⟩ N))] ?_ (fun i hi=>?_) ?_ (by simp) (by simp [rounds];omega) ?_
   ·simp -implicitDefEqProofs [hs0,tk]
   ·have hx1:=hsl L i
    obtain ⟨x,hx⟩:=get_ex (l:=shL L c n ⟨pf,pb,pg⟩ i) (i:=c+i) (by omega)
    have fx:=celsD_getD hx
    have es:shL L c n ⟨pf,pb,pg⟩ (i+1)=(shL L c n ⟨pf,pb,pg⟩ i).set (c+i) (shVal L c n ⟨pf,pb,pg⟩ (c+i)):=rfl
    have et:c+(i+1)=c+i+1:=rfl
    rw [es,et]
    have hlt:((c+i:Nat):Int)<g.w:=by omega
    have hltn:c+i<g.w:=by omega
    have hltl:c+i<L.length:=by omega
    have e1:wr (((c+i:Nat):Int)+1)=((c+i+1:Nat):Int):=by rw [wr_id _ (by omega) (by omega)];omega
    have e0:wr (((c+i:Nat):Int)-n)=((c+i:Nat):Int)-n:=wr_id _ (by omega) (by omega)
    have j0:(0:Int)≤((c+i:Nat):Int):=by omega
    have q5:=set_get (shL L c n ⟨pf,pb,pg⟩ i) (c+i) (c+i) ⟨32,0,⟨pf,pb,pg⟩⟩ x hx
    rw [if_pos rfl] at q5
    have f5:=celsD_getD q5
    have f5a:=celsD_at q5
    have lx:((shL L c n ⟨pf,pb,pg⟩ i).set (c+i) ⟨32,0,⟨pf,pb,pg⟩⟩).length=L.length:=by rw [List.length_set];omega
    have ss:∀ y:Cel,((shL L c n ⟨pf,pb,pg⟩ i).set (c+i) ⟨32,0,⟨pf,pb,pg⟩⟩).set (c+i) y=(shL L c n ⟨pf,pb,pg⟩ i).set (c+i) y:=fun y=>List.set_set ..
    unfold shVal
    by_cases hin:(c:Int)≤((c+i:Nat):Int)-n∧((c+i:Nat):Int)-n<L.length
    ·rw [if_pos hin]
     obtain ⟨f,hf⟩:∃ f:Nat,((c+i:Nat):Int)-n=(f:Int):=⟨(((c+i:Nat):Int)-n).toNat,by omega⟩
     obtain ⟨⟨yr,yk,⟨yf,yb,yg⟩⟩,hy⟩:=get_ex (l:=L) (i:=f) (by omega)
     have ay:=celsD_at hy
     have i1:(c:Int)≤f:=by omega
     have i1n:c≤f:=by omega
     have i2:(f:Int)<g.w:=by omega
     have i2n:f<g.w:=by omega
     have i2l:f<L.length:=by omega
     rw [hf,Int.toNat_natCast,getD_of hy]
     have e0f:wr (((c+i:Nat):Int)-n)=(f:Int):=e0.trans hf
     clear e0
     generalize hX:shL L c n ⟨pf,pb,pg⟩ i=X at *
     generalize c+i=j at *
     obtain ⟨X1,s3⟩:∃ X1,X.set j ⟨32,0,⟨pf,pb,pg⟩⟩=X1:=⟨_,rfl⟩
     rw [s3] at f5 f5a lx ss
     have s4:=ss ⟨yr,yk,⟨yf,yb,yg⟩⟩
     clear ss
     simp -implicitDefEqProofs [hlt,hltn,hltl,hx1,fx,e0f,e1,j0,cw283,cr283,w283p,blankC,s3,f5,f5a,lx,i1,i1n,i2,i2n,i2l,ay,s4]
    ·rw [if_neg hin]
     have hcase:((c+i:Nat):Int)-n<c∨((c:Int)≤((c+i:Nat):Int)-n∧¬((c+i:Nat):Int)-n<g.w):=by omega
     generalize shL L c n ⟨pf,pb,pg⟩ i=X at *
     generalize c+i=j at *
     generalize hF:(j:Int)-n=F at *
     rcases hcase with h1 | ⟨h1,h2⟩
     ·have h1':¬(c:Int)≤F:=by omega
      simp -implicitDefEqProofs [hlt,hltn,hltl,hx1,fx,hF,e0,e1,j0,cw283,cr283,w283p,blankC,h1']
     ·simp -implicitDefEqProofs [hlt,hltn,hltl,hx1,fx,hF,e0,e1,j0,cw283,cr283,w283p,blankC,h1,h2]
   ·have hge:¬((c:Int)+(N:Int))<g.w:=by omega
    simp -implicitDefEqProofs [hge]
   ·generalize shL L c n ⟨pf,pb,pg⟩ N=X at *
    generalize mendL X=M at *
    generalize setRow g r M=G' at *
    simp -implicitDefEqProofs [cw287,cr287,w287,cw315,cr315,w315]
theorem sp295i (k:Nat) (g:Gd) (o:OkG g) (hgl:g.cells.length≤100000) (r c:Nat) (hr:r<g.h) (hc:c<g.w) (n:Int) (hn:1≤n∧n≤100000) (p:Pn):evFun (clOf (modsR tab (k+2)) 3) s295 [gdD g,I r,I c,I n,pnD p]=some (gdD (insG g r c n p),[]):=by
 have h:=sp295w k g o hgl r c hr hc n (by omega) p
 have hl:=rowL_len o hr
 have e:=sh_in (l:=rowL g r) (c:=c) (by omega) hn.1 p (manyC g c n) (by rw [hl];rfl)
 rw [hl] at e
 rw [e] at h
 exact h
theorem sp295d (k:Nat) (g:Gd) (o:OkG g) (hgl:g.cells.length≤100000) (r c:Nat) (hr:r<g.h) (hc:c<g.w) (n:Int) (hn:1≤n∧n≤100000) (p:Pn):evFun (clOf (modsR tab (k+2)) 3) s295 [gdD g,I r,I c,I (-n),pnD p]=some (gdD (delG g r c n p),[]):=by
 have h:=sp295w k g o hgl r c hr hc (-n) (by omega) p
 have hl:=rowL_len o hr
 have e:=sh_de (l:=rowL g r) (c:=c) (by omega) hn.1 p (manyC g c n) (by rw [hl];rfl)
 rw [hl] at e
 rw [e] at h
 exact h
end Go.Proofs.YtlpchliomdomdaaGreat.LgTab
