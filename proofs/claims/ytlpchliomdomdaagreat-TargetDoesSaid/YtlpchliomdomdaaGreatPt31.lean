import Derived.Test.YtlpchliomdomdaaGreatPt30
namespace Go.Proofs.YtlpchliomdomdaaGreat.LgTab
open Go Lg
set_option linter.unusedVariables false
set_option linter.unusedSimpArgs false
set_option maxRecDepth 8000
set_option maxHeartbeats 16000000 in
theorem sp291D0 (k:Nat) (s:Sc) (o:OkS s) (r:RightS s) (x y:Int) (hxb : -2147483648≤x∧x≤2147483647) (ey:y=drawnI s x) (hyb : -2147483648≤y∧y≤2147483647) (hsh:s.sh=0) (hT:s.s0=48) (h5:x<95) (hd:y=x):evFun (clOf (modsR tab (k+4)) 3) s291 [scD s,R x]=some (scD (printS s x),[]):=by
 have w251:=fun q=>sp251 q y hyb
 have hw:=o.w
 have hc:=o.col
 have hwc:=widthR_cases y
 obtain ⟨w,ew⟩:∃ w,w=widthR y:=⟨_,rfl⟩
 rw [←ew] at w251 hwc
 subst hd
 have n5:¬y=95:=by omega
 have n6:¬96≤y:=by omega
 by_cases c0:w=0
 ·have ee:printS s y=s:=by unfold printS;rw [←ey,←ew,if_pos (.inl c0)]
  have c1:w<1:=by omega
  rw [ee,evFun_evB rfl]
  unfold s291
  simp only [scD,scL,hsh]
  simp -implicitDefEqProofs [cw251,cr251,w251,eq_true hT,n5,n6,c1]
 have c0':¬w<1:=by omega
 by_cases c1:(s.g.w:Int)<w
 ·have ee:printS s y=s:=by unfold printS;rw [←ey,←ew,if_pos (.inr c1)]
  rw [ee,evFun_evB rfl]
  unfold s291
  simp only [scD,scL,hsh]
  simp -implicitDefEqProofs [cw251,cr251,w251,eq_true hT,n5,n6,c0',c1]
 have ee:printS s y=inked (prep s w) y:=by unfold printS;rw [←ey,←ew,if_neg (fun h=>h.elim c0 c1)]
 obtain ⟨po,pw,p0,p1⟩:=prep_ok o (w:=w) (by omega) (by omega)
 have pl:=po.len
 have pr:=po.row
 have er:((prep s w).row.toNat:Int)=(prep s w).row:=Int.toNat_of_nonneg pr.1
 have ec:((prep s w).col.toNat:Int)=(prep s w).col:=Int.toNat_of_nonneg p0
 have v:=fun q=>sp292 q (prep s w).g (prep_rightG o r w) (by omega) (prep s w).row.toNat (prep s w).col.toNat (by omega) y hyb (prep s w).p (by rw [←ew];omega) (by rw [ec,←ew,pw];exact p1)
 rw [er,ec] at v
 have i1:=inked_full (prep s w) y
 have i2:=inked_part (prep s w) y
 rw [←ew] at i1 i2
 have c7:¬((prep s w).g.w:Int)<(prep s w).col+w:=by omega
 have eg:∀ r c,(putG (prep s w).g r c y (prep s w).p).h=(prep s w).g.h∧(putG (prep s w).g r c y (prep s w).p).w=(prep s w).g.w:=fun r c=>⟨rfl,rfl⟩
 have eG:=(eg (prep s w).row.toNat (prep s w).col.toNat).2
 rw [ee]
 clear ee eg
 by_cases c2:s.wrap=true∧(s.pend=true∨(s.g.w:Int)<s.col+w)
 ·have ep:prep s w=feedS (atS s s.row 0):=by unfold prep;rw [if_pos c2]
  have u2:=fun q=>sp285 q _ (col_ok o)
  rw [feed_col o,←ep] at u2
  clear ep
  generalize putG (prep s w).g (prep s w).row.toNat (prep s w).col.toNat y (prep s w).p=G at *
  generalize prep s w=S1 at *
  by_cases c5:(S1.g.w:Int)≤S1.col+w
  ·rw [i1 c5]
   by_cases c4:s.pend=true
   ·rw [evFun_evB rfl]
    unfold s291
    simp only [scD,scL,c2.1,c4,hsh] at u2 ⊢
    simp -implicitDefEqProofs [cw251,cr251,w251,eq_true hT,n5,n6,c0',c1,cw285,cr285,u2,cw292,cr292,v,wr_id (S1.col+w) (by omega) (by omega),wr_id ((S1.g.w:Int)-1) (by omega) (by omega),c5,c7,eG]
   ·have c3:(s.g.w:Int)<s.col+w:=c2.2.resolve_left c4
    rw [Bool.not_eq_true] at c4
    rw [evFun_evB rfl]
    unfold s291
    simp only [scD,scL,c2.1,c4,hsh] at u2 ⊢
    simp -implicitDefEqProofs [cw251,cr251,w251,eq_true hT,n5,n6,c0',c1,c3,cw285,cr285,u2,cw292,cr292,v,wr_id (S1.col+w) (by omega) (by omega),wr_id (s.col+w) (by omega) (by omega),wr_id ((S1.g.w:Int)-1) (by omega) (by omega),c5,c7,eG]
  ·rw [i2 c5]
   by_cases c4:s.pend=true
   ·rw [evFun_evB rfl]
    unfold s291
    simp only [scD,scL,c2.1,c4,hsh] at u2 ⊢
    simp -implicitDefEqProofs [cw251,cr251,w251,eq_true hT,n5,n6,c0',c1,cw285,cr285,u2,cw292,cr292,v,wr_id (S1.col+w) (by omega) (by omega),wr_id ((S1.g.w:Int)-1) (by omega) (by omega),c5,c7,eG]
   ·have c3:(s.g.w:Int)<s.col+w:=c2.2.resolve_left c4
    rw [Bool.not_eq_true] at c4
    rw [evFun_evB rfl]
    unfold s291
    simp only [scD,scL,c2.1,c4,hsh] at u2 ⊢
    simp -implicitDefEqProofs [cw251,cr251,w251,eq_true hT,n5,n6,c0',c1,c3,cw285,cr285,u2,cw292,cr292,v,wr_id (S1.col+w) (by omega) (by omega),wr_id (s.col+w) (by omega) (by omega),wr_id ((S1.g.w:Int)-1) (by omega) (by omega),c5,c7,eG]
 ·by_cases c3:(s.g.w:Int)<s.col+w
  ·have c4:s.wrap=false:=by
    cases hh:s.wrap with
    | false=>rfl
    | true=>exact absurd ⟨hh, .inr c3⟩ c2
   have c6:s.pend=false:=by
    cases hh:s.pend with
    | false=>rfl
    | true=>rw [(r.pend hh).1] at c4;cases c4
   have ep:prep s w={s with col:=(s.g.w:Int)-w}:=by unfold prep;rw [if_neg c2,if_pos c3]
   have e1:(s.g.w:Int)-w+w=s.g.w:=by omega
   have c5:((prep s w).g.w:Int)≤(prep s w).col+w:=by rw [ep];show (s.g.w:Int)≤(s.g.w:Int)-w+w;omega
   rw [i1 c5]
   rw [ep] at v eG ⊢
   simp only at v eG ⊢
   generalize putG s.g s.row.toNat ((s.g.w:Int)-w).toNat y s.p=G at *
   rw [evFun_evB rfl]
   unfold s291
   simp only [scD,scL,c4,c6,hsh]
   simp -implicitDefEqProofs [cw251,cr251,w251,eq_true hT,n5,n6,c0',c1,c3,cw292,cr292,v,wr_id (s.col+w) (by omega) (by omega),wr_id ((s.g.w:Int)-w) (by omega) (by omega),e1,wr_id ((s.g.w:Int)) (by omega) (by omega),wr_id ((s.g.w:Int)-1) (by omega) (by omega),eG]
  ·have ep:prep s w=s:=by unfold prep;rw [if_neg c2,if_neg c3]
   rw [ep] at v i1 i2 eG ⊢
   generalize putG s.g s.row.toNat s.col.toNat y s.p=G at *
   cases c4:s.wrap with
   | false =>
    have c6:s.pend=false:=by
     cases hh:s.pend with
     | false=>rfl
     | true=>rw [(r.pend hh).1] at c4;cases c4
    by_cases c5:(s.g.w:Int)≤s.col+w
    ·rw [i1 c5,evFun_evB rfl]
     unfold s291
     simp only [scD,scL,c4,c6,hsh]
     simp -implicitDefEqProofs [cw251,cr251,w251,eq_true hT,n5,n6,c0',c1,c3,cw292,cr292,v,wr_id (s.col+w) (by omega) (by omega),wr_id ((s.g.w:Int)-1) (by omega) (by omega),c5,eG]
    ·rw [i2 c5,evFun_evB rfl]
     unfold s291
     simp only [scD,scL,c4,c6,hsh]
     simp -implicitDefEqProofs [cw251,cr251,w251,eq_true hT,n5,n6,c0',c1,c3,cw292,cr292,v,wr_id (s.col+w) (by omega) (by omega),wr_id ((s.g.w:Int)-1) (by omega) (by omega),c5,eG]
   | true =>
    have c6:s.pend=false:=by
     cases hh:s.pend with
     | false=>rfl
     | true=>exact absurd ⟨c4, .inl hh⟩ c2
    by_cases c5:(s.g.w:Int)≤s.col+w
    ·rw [i1 c5,evFun_evB rfl]
     unfold s291
     simp only [scD,scL,c4,c6,hsh]
     simp -implicitDefEqProofs [cw251,cr251,w251,eq_true hT,n5,n6,c0',c1,c3,cw292,cr292,v,wr_id (s.col+w) (by omega) (by omega),wr_id ((s.g.w:Int)-1) (by omega) (by omega),c5,eG]
    ·rw [i2 c5,evFun_evB rfl]
     unfold s291
     simp only [scD,scL,c4,c6,hsh]
     simp -implicitDefEqProofs [cw251,cr251,w251,eq_true hT,n5,n6,c0',c1,c3,cw292,cr292,v,wr_id (s.col+w) (by omega) (by omega),wr_id ((s.g.w:Int)-1) (by omega) (by omega),c5,eG]
set_option maxHeartbeats 16000000 in
theorem sp291D1 (k:Nat) (s:Sc) (o:OkS s) (r:RightS s) (x y:Int) (hxb : -2147483648≤x∧x≤2147483647) (ey:y=drawnI s x) (hyb : -2147483648≤y∧y≤2147483647) (hsh:s.sh=1) (hT:s.s1=48) (h5:x<95) (hd:y=x):evFun (clOf (modsR tab (k+4)) 3) s291 [scD s,R x]=some (scD (printS s x),[]):=by
 have w251:=fun q=>sp251 q y hyb
 have hw:=o.w
 have hc:=o.col
 have hwc:=widthR_cases y
 obtain ⟨w,ew⟩:∃ w,w=widthR y:=⟨_,rfl⟩
 rw [←ew] at w251 hwc
 subst hd
 have n5:¬y=95:=by omega
 have n6:¬96≤y:=by omega
 by_cases c0:w=0
 ·have ee:printS s y=s:=by unfold printS;rw [←ey,←ew,if_pos (.inl c0)]
  have c1:w<1:=by omega
  rw [ee,evFun_evB rfl]
  unfold s291
  simp only [scD,scL,hsh]
  simp -implicitDefEqProofs [cw251,cr251,w251,eq_true hT,n5,n6,c1]
 have c0':¬w<1:=by omega
 by_cases c1:(s.g.w:Int)<w
 ·have ee:printS s y=s:=by unfold printS;rw [←ey,←ew,if_pos (.inr c1)]
  rw [ee,evFun_evB rfl]
  unfold s291
  simp only [scD,scL,hsh]
  simp -implicitDefEqProofs [cw251,cr251,w251,eq_true hT,n5,n6,c0',c1]
 have ee:printS s y=inked (prep s w) y:=by unfold printS;rw [←ey,←ew,if_neg (fun h=>h.elim c0 c1)]
 obtain ⟨po,pw,p0,p1⟩:=prep_ok o (w:=w) (by omega) (by omega)
 have pl:=po.len
 have pr:=po.row
 have er:((prep s w).row.toNat:Int)=(prep s w).row:=Int.toNat_of_nonneg pr.1
 have ec:((prep s w).col.toNat:Int)=(prep s w).col:=Int.toNat_of_nonneg p0
 have v:=fun q=>sp292 q (prep s w).g (prep_rightG o r w) (by omega) (prep s w).row.toNat (prep s w).col.toNat (by omega) y hyb (prep s w).p (by rw [←ew];omega) (by rw [ec,←ew,pw];exact p1)
 rw [er,ec] at v
 have i1:=inked_full (prep s w) y
 have i2:=inked_part (prep s w) y
 rw [←ew] at i1 i2
 have c7:¬((prep s w).g.w:Int)<(prep s w).col+w:=by omega
 have eg:∀ r c,(putG (prep s w).g r c y (prep s w).p).h=(prep s w).g.h∧(putG (prep s w).g r c y (prep s w).p).w=(prep s w).g.w:=fun r c=>⟨rfl,rfl⟩
 have eG:=(eg (prep s w).row.toNat (prep s w).col.toNat).2
 rw [ee]
 clear ee eg
 by_cases c2:s.wrap=true∧(s.pend=true∨(s.g.w:Int)<s.col+w)
 ·have ep:prep s w=feedS (atS s s.row 0):=by unfold prep;rw [if_pos c2]
  have u2:=fun q=>sp285 q _ (col_ok o)
  rw [feed_col o,←ep] at u2
  clear ep
  generalize putG (prep s w).g (prep s w).row.toNat (prep s w).col.toNat y (prep s w).p=G at *
  generalize prep s w=S1 at *
  by_cases c5:(S1.g.w:Int)≤S1.col+w
  ·rw [i1 c5]
   by_cases c4:s.pend=true
   ·rw [evFun_evB rfl]
    unfold s291
    simp only [scD,scL,c2.1,c4,hsh] at u2 ⊢
    simp -implicitDefEqProofs [cw251,cr251,w251,eq_true hT,n5,n6,c0',c1,cw285,cr285,u2,cw292,cr292,v,wr_id (S1.col+w) (by omega) (by omega),wr_id ((S1.g.w:Int)-1) (by omega) (by omega),c5,c7,eG]
   ·have c3:(s.g.w:Int)<s.col+w:=c2.2.resolve_left c4
    rw [Bool.not_eq_true] at c4
    rw [evFun_evB rfl]
    unfold s291
    simp only [scD,scL,c2.1,c4,hsh] at u2 ⊢
    simp -implicitDefEqProofs [cw251,cr251,w251,eq_true hT,n5,n6,c0',c1,c3,cw285,cr285,u2,cw292,cr292,v,wr_id (S1.col+w) (by omega) (by omega),wr_id (s.col+w) (by omega) (by omega),wr_id ((S1.g.w:Int)-1) (by omega) (by omega),c5,c7,eG]
  ·rw [i2 c5]
   by_cases c4:s.pend=true
   ·rw [evFun_evB rfl]
    unfold s291
    simp only [scD,scL,c2.1,c4,hsh] at u2 ⊢
    simp -implicitDefEqProofs [cw251,cr251,w251,eq_true hT,n5,n6,c0',c1,cw285,cr285,u2,cw292,cr292,v,wr_id (S1.col+w) (by omega) (by omega),wr_id ((S1.g.w:Int)-1) (by omega) (by omega),c5,c7,eG]
   ·have c3:(s.g.w:Int)<s.col+w:=c2.2.resolve_left c4
    rw [Bool.not_eq_true] at c4
    rw [evFun_evB rfl]
    unfold s291
    simp only [scD,scL,c2.1,c4,hsh] at u2 ⊢
    simp -implicitDefEqProofs [cw251,cr251,w251,eq_true hT,n5,n6,c0',c1,c3,cw285,cr285,u2,cw292,cr292,v,wr_id (S1.col+w) (by omega) (by omega),wr_id (s.col+w) (by omega) (by omega),wr_id ((S1.g.w:Int)-1) (by omega) (by omega),c5,c7,eG]
 ·by_cases c3:(s.g.w:Int)<s.col+w
  ·have c4:s.wrap=false:=by
    cases hh:s.wrap with
    | false=>rfl
    | true=>exact absurd ⟨hh, .inr c3⟩ c2
   have c6:s.pend=false:=by
    cases hh:s.pend with
    | false=>rfl
    | true=>rw [(r.pend hh).1] at c4;cases c4
   have ep:prep s w={s with col:=(s.g.w:Int)-w}:=by unfold prep;rw [if_neg c2,if_pos c3]
   have e1:(s.g.w:Int)-w+w=s.g.w:=by omega
   have c5:((prep s w).g.w:Int)≤(prep s w).col+w:=by rw [ep];show (s.g.w:Int)≤(s.g.w:Int)-w+w;omega
   rw [i1 c5]
   rw [ep] at v eG ⊢
   simp only at v eG ⊢
   generalize putG s.g s.row.toNat ((s.g.w:Int)-w).toNat y s.p=G at *
   rw [evFun_evB rfl]
   unfold s291
   simp only [scD,scL,c4,c6,hsh]
   simp -implicitDefEqProofs [cw251,cr251,w251,eq_true hT,n5,n6,c0',c1,c3,cw292,cr292,v,wr_id (s.col+w) (by omega) (by omega),wr_id ((s.g.w:Int)-w) (by omega) (by omega),e1,wr_id ((s.g.w:Int)) (by omega) (by omega),wr_id ((s.g.w:Int)-1) (by omega) (by omega),eG]
  ·have ep:prep s w=s:=by unfold prep;rw [if_neg c2,if_neg c3]
   rw [ep] at v i1 i2 eG ⊢
   generalize putG s.g s.row.toNat s.col.toNat y s.p=G at *
   cases c4:s.wrap with
   | false =>
    have c6:s.pend=false:=by
     cases hh:s.pend with
     | false=>rfl
     | true=>rw [(r.pend hh).1] at c4;cases c4
    by_cases c5:(s.g.w:Int)≤s.col+w
    ·rw [i1 c5,evFun_evB rfl]
     unfold s291
     simp only [scD,scL,c4,c6,hsh]
     simp -implicitDefEqProofs [cw251,cr251,w251,eq_true hT,n5,n6,c0',c1,c3,cw292,cr292,v,wr_id (s.col+w) (by omega) (by omega),wr_id ((s.g.w:Int)-1) (by omega) (by omega),c5,eG]
    ·rw [i2 c5,evFun_evB rfl]
     unfold s291
     simp only [scD,scL,c4,c6,hsh]
     simp -implicitDefEqProofs [cw251,cr251,w251,eq_true hT,n5,n6,c0',c1,c3,cw292,cr292,v,wr_id (s.col+w) (by omega) (by omega),wr_id ((s.g.w:Int)-1) (by omega) (by omega),c5,eG]
   | true =>
    have c6:s.pend=false:=by
     cases hh:s.pend with
     | false=>rfl
     | true=>exact absurd ⟨c4, .inl hh⟩ c2
    by_cases c5:(s.g.w:Int)≤s.col+w
    ·rw [i1 c5,evFun_evB rfl]
     unfold s291
     simp only [scD,scL,c4,c6,hsh]
     simp -implicitDefEqProofs [cw251,cr251,w251,eq_true hT,n5,n6,c0',c1,c3,cw292,cr292,v,wr_id (s.col+w) (by omega) (by omega),wr_id ((s.g.w:Int)-1) (by omega) (by omega),c5,eG]
    ·rw [i2 c5,evFun_evB rfl]
     unfold s291
     simp only [scD,scL,c4,c6,hsh]
     simp -implicitDefEqProofs [cw251,cr251,w251,eq_true hT,n5,n6,c0',c1,c3,cw292,cr292,v,wr_id (s.col+w) (by omega) (by omega),wr_id ((s.g.w:Int)-1) (by omega) (by omega),c5,eG]
set_option maxHeartbeats 16000000 in
theorem sp291E0 (k:Nat) (s:Sc) (o:OkS s) (r:RightS s) (x y:Int) (hxb : -2147483648≤x∧x≤2147483647) (ey:y=drawnI s x) (hyb : -2147483648≤y∧y≤2147483647) (hsh:s.sh=0) (hT:s.s0=48) (h5:126<x) (hd:y=x):evFun (clOf (modsR tab (k+4)) 3) s291 [scD s,R x]=some (scD (printS s x),[]):=by
 have w251:=fun q=>sp251 q y hyb
 have hw:=o.w
 have hc:=o.col
 have hwc:=widthR_cases y
 obtain ⟨w,ew⟩:∃ w,w=widthR y:=⟨_,rfl⟩
 rw [←ew] at w251 hwc
 subst hd
 have n5:¬y=95:=by omega
 have n6:96≤y:=by omega
 have n7:¬y≤126:=by omega
 by_cases c0:w=0
 ·have ee:printS s y=s:=by unfold printS;rw [←ey,←ew,if_pos (.inl c0)]
  have c1:w<1:=by omega
  rw [ee,evFun_evB rfl]
  unfold s291
  simp only [scD,scL,hsh]
  simp -implicitDefEqProofs [cw251,cr251,w251,eq_true hT,n5,n6,n7,c1]
 have c0':¬w<1:=by omega
 by_cases c1:(s.g.w:Int)<w
 ·have ee:printS s y=s:=by unfold printS;rw [←ey,←ew,if_pos (.inr c1)]
  rw [ee,evFun_evB rfl]
  unfold s291
  simp only [scD,scL,hsh]
  simp -implicitDefEqProofs [cw251,cr251,w251,eq_true hT,n5,n6,n7,c0',c1]
 have ee:printS s y=inked (prep s w) y:=by unfold printS;rw [←ey,←ew,if_neg (fun h=>h.elim c0 c1)]
 obtain ⟨po,pw,p0,p1⟩:=prep_ok o (w:=w) (by omega) (by omega)
 have pl:=po.len
 have pr:=po.row
 have er:((prep s w).row.toNat:Int)=(prep s w).row:=Int.toNat_of_nonneg pr.1
 have ec:((prep s w).col.toNat:Int)=(prep s w).col:=Int.toNat_of_nonneg p0
 have v:=fun q=>sp292 q (prep s w).g (prep_rightG o r w) (by omega) (prep s w).row.toNat (prep s w).col.toNat (by omega) y hyb (prep s w).p (by rw [←ew];omega) (by rw [ec,←ew,pw];exact p1)
 rw [er,ec] at v
 have i1:=inked_full (prep s w) y
 have i2:=inked_part (prep s w) y
 rw [←ew] at i1 i2
 have c7:¬((prep s w).g.w:Int)<(prep s w).col+w:=by omega
 have eg:∀ r c,(putG (prep s w).g r c y (prep s w).p).h=(prep s w).g.h∧(putG (prep s w).g r c y (prep s w).p).w=(prep s w).g.w:=fun r c=>⟨rfl,rfl⟩
 have eG:=(eg (prep s w).row.toNat (prep s w).col.toNat).2
 rw [ee]
 clear ee eg
 by_cases c2:s.wrap=true∧(s.pend=true∨(s.g.w:Int)<s.col+w)
 ·have ep:prep s w=feedS (atS s s.row 0):=by unfold prep;rw [if_pos c2]
  have u2:=fun q=>sp285 q _ (col_ok o)
  rw [feed_col o,←ep] at u2
  clear ep
  generalize putG (prep s w).g (prep s w).row.toNat (prep s w).col.toNat y (prep s w).p=G at *
  generalize prep s w=S1 at *
  by_cases c5:(S1.g.w:Int)≤S1.col+w
  ·rw [i1 c5]
   by_cases c4:s.pend=true
   ·rw [evFun_evB rfl]
    unfold s291
    simp only [scD,scL,c2.1,c4,hsh] at u2 ⊢
    simp -implicitDefEqProofs [cw251,cr251,w251,eq_true hT,n5,n6,n7,c0',c1,cw285,cr285,u2,cw292,cr292,v,wr_id (S1.col+w) (by omega) (by omega),wr_id ((S1.g.w:Int)-1) (by omega) (by omega),c5,c7,eG]
   ·have c3:(s.g.w:Int)<s.col+w:=c2.2.resolve_left c4
    rw [Bool.not_eq_true] at c4
    rw [evFun_evB rfl]
    unfold s291
    simp only [scD,scL,c2.1,c4,hsh] at u2 ⊢
    simp -implicitDefEqProofs [cw251,cr251,w251,eq_true hT,n5,n6,n7,c0',c1,c3,cw285,cr285,u2,cw292,cr292,v,wr_id (S1.col+w) (by omega) (by omega),wr_id (s.col+w) (by omega) (by omega),wr_id ((S1.g.w:Int)-1) (by omega) (by omega),c5,c7,eG]
  ·rw [i2 c5]
   by_cases c4:s.pend=true
   ·rw [evFun_evB rfl]
    unfold s291
    simp only [scD,scL,c2.1,c4,hsh] at u2 ⊢
    simp -implicitDefEqProofs [cw251,cr251,w251,eq_true hT,n5,n6,n7,c0',c1,cw285,cr285,u2,cw292,cr292,v,wr_id (S1.col+w) (by omega) (by omega),wr_id ((S1.g.w:Int)-1) (by omega) (by omega),c5,c7,eG]
   ·have c3:(s.g.w:Int)<s.col+w:=c2.2.resolve_left c4
    rw [Bool.not_eq_true] at c4
    rw [evFun_evB rfl]
    unfold s291
    simp only [scD,scL,c2.1,c4,hsh] at u2 ⊢
    simp -implicitDefEqProofs [cw251,cr251,w251,eq_true hT,n5,n6,n7,c0',c1,c3,cw285,cr285,u2,cw292,cr292,v,wr_id (S1.col+w) (by omega) (by omega),wr_id (s.col+w) (by omega) (by omega),wr_id ((S1.g.w:Int)-1) (by omega) (by omega),c5,c7,eG]
 ·by_cases c3:(s.g.w:Int)<s.col+w
  ·have c4:s.wrap=false:=by
    cases hh:s.wrap with
    | false=>rfl
    | true=>exact absurd ⟨hh, .inr c3⟩ c2
   have c6:s.pend=false:=by
    cases hh:s.pend with
    | false=>rfl
    | true=>rw [(r.pend hh).1] at c4;cases c4
   have ep:prep s w={s with col:=(s.g.w:Int)-w}:=by unfold prep;rw [if_neg c2,if_pos c3]
   have e1:(s.g.w:Int)-w+w=s.g.w:=by omega
   have c5:((prep s w).g.w:Int)≤(prep s w).col+w:=by rw [ep];show (s.g.w:Int)≤(s.g.w:Int)-w+w;omega
   rw [i1 c5]
   rw [ep] at v eG ⊢
   simp only at v eG ⊢
   generalize putG s.g s.row.toNat ((s.g.w:Int)-w).toNat y s.p=G at *
   rw [evFun_evB rfl]
   unfold s291
   simp only [scD,scL,c4,c6,hsh]
   simp -implicitDefEqProofs [cw251,cr251,w251,eq_true hT,n5,n6,n7,c0',c1,c3,cw292,cr292,v,wr_id (s.col+w) (by omega) (by omega),wr_id ((s.g.w:Int)-w) (by omega) (by omega),e1,wr_id ((s.g.w:Int)) (by omega) (by omega),wr_id ((s.g.w:Int)-1) (by omega) (by omega),eG]
  ·have ep:prep s w=s:=by unfold prep;rw [if_neg c2,if_neg c3]
   rw [ep] at v i1 i2 eG ⊢
   generalize putG s.g s.row.toNat s.col.toNat y s.p=G at *
   cases c4:s.wrap with
   | false =>
    have c6:s.pend=false:=by
     cases hh:s.pend with
     | false=>rfl
     | true=>rw [(r.pend hh).1] at c4;cases c4
    by_cases c5:(s.g.w:Int)≤s.col+w
    ·rw [i1 c5,evFun_evB rfl]
     unfold s291
     simp only [scD,scL,c4,c6,hsh]
     simp -implicitDefEqProofs [cw251,cr251,w251,eq_true hT,n5,n6,n7,c0',c1,c3,cw292,cr292,v,wr_id (s.col+w) (by omega) (by omega),wr_id ((s.g.w:Int)-1) (by omega) (by omega),c5,eG]
    ·rw [i2 c5,evFun_evB rfl]
     unfold s291
     simp only [scD,scL,c4,c6,hsh]
     simp -implicitDefEqProofs [cw251,cr251,w251,eq_true hT,n5,n6,n7,c0',c1,c3,cw292,cr292,v,wr_id (s.col+w) (by omega) (by omega),wr_id ((s.g.w:Int)-1) (by omega) (by omega),c5,eG]
   | true =>
    have c6:s.pend=false:=by
     cases hh:s.pend with
     | false=>rfl
     | true=>exact absurd ⟨c4, .inl hh⟩ c2
    by_cases c5:(s.g.w:Int)≤s.col+w
    ·rw [i1 c5,evFun_evB rfl]
     unfold s291
     simp only [scD,scL,c4,c6,hsh]
     simp -implicitDefEqProofs [cw251,cr251,w251,eq_true hT,n5,n6,n7,c0',c1,c3,cw292,cr292,v,wr_id (s.col+w) (by omega) (by omega),wr_id ((s.g.w:Int)-1) (by omega) (by omega),c5,eG]
    ·rw [i2 c5,evFun_evB rfl]
     unfold s291
     simp only [scD,scL,c4,c6,hsh]
     simp -implicitDefEqProofs [cw251,cr251,w251,eq_true hT,n5,n6,n7,c0',c1,c3,cw292,cr292,v,wr_id (s.col+w) (by omega) (by omega),wr_id ((s.g.w:Int)-1) (by omega) (by omega),c5,eG]
set_option maxHeartbeats 16000000 in
theorem sp291E1 (k:Nat) (s:Sc) (o:OkS s) (r:RightS s) (x y:Int) (hxb : -2147483648≤x∧x≤2147483647) (ey:y=drawnI s x) (hyb : -2147483648≤y∧y≤2147483647) (hsh:s.sh=1) (hT:s.s1=48) (h5:126<x) (hd:y=x):evFun (clOf (modsR tab (k+4)) 3) s291 [scD s,R x]=some (scD (printS s x),[]):=by
 have w251:=fun q=>sp251 q y hyb
 have hw:=o.w
 have hc:=o.col
 have hwc:=widthR_cases y
 obtain ⟨w,ew⟩:∃ w,w=widthR y:=⟨_,rfl⟩
 rw [←ew] at w251 hwc
 subst hd
 have n5:¬y=95:=by omega
 have n6:96≤y:=by omega
 have n7:¬y≤126:=by omega
 by_cases c0:w=0
 ·have ee:printS s y=s:=by unfold printS;rw [←ey,←ew,if_pos (.inl c0)]
  have c1:w<1:=by omega
  rw [ee,evFun_evB rfl]
  unfold s291
  simp only [scD,scL,hsh]
  simp -implicitDefEqProofs [cw251,cr251,w251,eq_true hT,n5,n6,n7,c1]
 have c0':¬w<1:=by omega
 by_cases c1:(s.g.w:Int)<w
 ·have ee:printS s y=s:=by unfold printS;rw [←ey,←ew,if_pos (.inr c1)]
  rw [ee,evFun_evB rfl]
  unfold s291
  simp only [scD,scL,hsh]
  simp -implicitDefEqProofs [cw251,cr251,w251,eq_true hT,n5,n6,n7,c0',c1]
 have ee:printS s y=inked (prep s w) y:=by unfold printS;rw [←ey,←ew,if_neg (fun h=>h.elim c0 c1)]
 obtain ⟨po,pw,p0,p1⟩:=prep_ok o (w:=w) (by omega) (by omega)
 have pl:=po.len
 have pr:=po.row
 have er:((prep s w).row.toNat:Int)=(prep s w).row:=Int.toNat_of_nonneg pr.1
 have ec:((prep s w).col.toNat:Int)=(prep s w).col:=Int.toNat_of_nonneg p0
 have v:=fun q=>sp292 q (prep s w).g (prep_rightG o r w) (by omega) (prep s w).row.toNat (prep s w).col.toNat (by omega) y hyb (prep s w).p (by rw [←ew];omega) (by rw [ec,←ew,pw];exact p1)
 rw [er,ec] at v
 have i1:=inked_full (prep s w) y
 have i2:=inked_part (prep s w) y
 rw [←ew] at i1 i2
 have c7:¬((prep s w).g.w:Int)<(prep s w).col+w:=by omega
 have eg:∀ r c,(putG (prep s w).g r c y (prep s w).p).h=(prep s w).g.h∧(putG (prep s w).g r c y (prep s w).p).w=(prep s w).g.w:=fun r c=>⟨rfl,rfl⟩
 have eG:=(eg (prep s w).row.toNat (prep s w).col.toNat).2
 rw [ee]
 clear ee eg
 by_cases c2:s.wrap=true∧(s.pend=true∨(s.g.w:Int)<s.col+w)
 ·have ep:prep s w=feedS (atS s s.row 0):=by unfold prep;rw [if_pos c2]
  have u2:=fun q=>sp285 q _ (col_ok o)
  rw [feed_col o,←ep] at u2
  clear ep
  generalize putG (prep s w).g (prep s w).row.toNat (prep s w).col.toNat y (prep s w).p=G at *
  generalize prep s w=S1 at *
  by_cases c5:(S1.g.w:Int)≤S1.col+w
  ·rw [i1 c5]
   by_cases c4:s.pend=true
   ·rw [evFun_evB rfl]
    unfold s291
    simp only [scD,scL,c2.1,c4,hsh] at u2 ⊢
    simp -implicitDefEqProofs [cw251,cr251,w251,eq_true hT,n5,n6,n7,c0',c1,cw285,cr285,u2,cw292,cr292,v,wr_id (S1.col+w) (by omega) (by omega),wr_id ((S1.g.w:Int)-1) (by omega) (by omega),c5,c7,eG]
   ·have c3:(s.g.w:Int)<s.col+w:=c2.2.resolve_left c4
    rw [Bool.not_eq_true] at c4
    rw [evFun_evB rfl]
    unfold s291
    simp only [scD,scL,c2.1,c4,hsh] at u2 ⊢
    simp -implicitDefEqProofs [cw251,cr251,w251,eq_true hT,n5,n6,n7,c0',c1,c3,cw285,cr285,u2,cw292,cr292,v,wr_id (S1.col+w) (by omega) (by omega),wr_id (s.col+w) (by omega) (by omega),wr_id ((S1.g.w:Int)-1) (by omega) (by omega),c5,c7,eG]
  ·rw [i2 c5]
   by_cases c4:s.pend=true
   ·rw [evFun_evB rfl]
    unfold s291
    simp only [scD,scL,c2.1,c4,hsh] at u2 ⊢
    simp -implicitDefEqProofs [cw251,cr251,w251,eq_true hT,n5,n6,n7,c0',c1,cw285,cr285,u2,cw292,cr292,v,wr_id (S1.col+w) (by omega) (by omega),wr_id ((S1.g.w:Int)-1) (by omega) (by omega),c5,c7,eG]
   ·have c3:(s.g.w:Int)<s.col+w:=c2.2.resolve_left c4
    rw [Bool.not_eq_true] at c4
    rw [evFun_evB rfl]
    unfold s291
    simp only [scD,scL,c2.1,c4,hsh] at u2 ⊢
    simp -implicitDefEqProofs [cw251,cr251,w251,eq_true hT,n5,n6,n7,c0',c1,c3,cw285,cr285,u2,cw292,cr292,v,wr_id (S1.col+w) (by omega) (by omega),wr_id (s.col+w) (by omega) (by omega),wr_id ((S1.g.w:Int)-1) (by omega) (by omega),c5,c7,eG]
 ·by_cases c3:(s.g.w:Int)<s.col+w
  ·have c4:s.wrap=false:=by
    cases hh:s.wrap with
    | false=>rfl
    | true=>exact absurd ⟨hh, .inr c3⟩ c2
   have c6:s.pend=false:=by
    cases hh:s.pend with
    | false=>rfl
    | true=>rw [(r.pend hh).1] at c4;cases c4
   have ep:prep s w={s with col:=(s.g.w:Int)-w}:=by unfold prep;rw [if_neg c2,if_pos c3]
   have e1:(s.g.w:Int)-w+w=s.g.w:=by omega
   have c5:((prep s w).g.w:Int)≤(prep s w).col+w:=by rw [ep];show (s.g.w:Int)≤(s.g.w:Int)-w+w;omega
   rw [i1 c5]
   rw [ep] at v eG ⊢
   simp only at v eG ⊢
   generalize putG s.g s.row.toNat ((s.g.w:Int)-w).toNat y s.p=G at *
   rw [evFun_evB rfl]
   unfold s291
   simp only [scD,scL,c4,c6,hsh]
   simp -implicitDefEqProofs [cw251,cr251,w251,eq_true hT,n5,n6,n7,c0',c1,c3,cw292,cr292,v,wr_id (s.col+w) (by omega) (by omega),wr_id ((s.g.w:Int)-w) (by omega) (by omega),e1,wr_id ((s.g.w:Int)) (by omega) (by omega),wr_id ((s.g.w:Int)-1) (by omega) (by omega),eG]
  ·have ep:prep s w=s:=by unfold prep;rw [if_neg c2,if_neg c3]
   rw [ep] at v i1 i2 eG ⊢
   generalize putG s.g s.row.toNat s.col.toNat y s.p=G at *
   cases c4:s.wrap with
   | false =>
    have c6:s.pend=false:=by
     cases hh:s.pend with
     | false=>rfl
     | true=>rw [(r.pend hh).1] at c4;cases c4
    by_cases c5:(s.g.w:Int)≤s.col+w
    ·rw [i1 c5,evFun_evB rfl]
     unfold s291
     simp only [scD,scL,c4,c6,hsh]
     simp -implicitDefEqProofs [cw251,cr251,w251,eq_true hT,n5,n6,n7,c0',c1,c3,cw292,cr292,v,wr_id (s.col+w) (by omega) (by omega),wr_id ((s.g.w:Int)-1) (by omega) (by omega),c5,eG]
    ·rw [i2 c5,evFun_evB rfl]
     unfold s291
     simp only [scD,scL,c4,c6,hsh]
     simp -implicitDefEqProofs [cw251,cr251,w251,eq_true hT,n5,n6,n7,c0',c1,c3,cw292,cr292,v,wr_id (s.col+w) (by omega) (by omega),wr_id ((s.g.w:Int)-1) (by omega) (by omega),c5,eG]
   | true =>
    have c6:s.pend=false:=by
     cases hh:s.pend with
     | false=>rfl
     | true=>exact absurd ⟨c4, .inl hh⟩ c2
    by_cases c5:(s.g.w:Int)≤s.col+w
    ·rw [i1 c5,evFun_evB rfl]
     unfold s291
     simp only [scD,scL,c4,c6,hsh]
     simp -implicitDefEqProofs [cw251,cr251,w251,eq_true hT,n5,n6,n7,c0',c1,c3,cw292,cr292,v,wr_id (s.col+w) (by omega) (by omega),wr_id ((s.g.w:Int)-1) (by omega) (by omega),c5,eG]
    ·rw [i2 c5,evFun_evB rfl]
     unfold s291
     simp only [scD,scL,c4,c6,hsh]
     simp -implicitDefEqProofs [cw251,cr251,w251,eq_true hT,n5,n6,n7,c0',c1,c3,cw292,cr292,v,wr_id (s.col+w) (by omega) (by omega),wr_id ((s.g.w:Int)-1) (by omega) (by omega),c5,eG]
end Go.Proofs.YtlpchliomdomdaaGreat.LgTab
