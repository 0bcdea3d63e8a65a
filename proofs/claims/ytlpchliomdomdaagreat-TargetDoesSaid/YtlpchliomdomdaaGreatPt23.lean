import Derived.Test.YtlpchliomdomdaaGreatPt22
import Derived.Test.YtlpchliomdomdaaGreatPt18
namespace Go.Proofs.YtlpchliomdomdaaGreat.LgTab
open Go Lg
set_option linter.unusedVariables false
set_option linter.unusedSimpArgs false
set_option maxRecDepth 8000
theorem width32:widthR 32=1:=by decide
def CellOk (x:Cel):Prop:=PR x.p∧((x.k=0∧widthR x.r=1)∨(x.k=1∧widthR x.r=2)∨(x.k=2∧x.r=0))
def NearOk (l:List Cel):Prop:=∀ (i:Nat) (x y:Cel),l[i]? = some x→l[i+1]? = some y→x.k=1→y.k=2→y.p=x.p
def Fair (l:List Cel):Prop:=(∀ (i:Nat) (x:Cel),l[i]? = some x→CellOk x)∧NearOk l
theorem blank_ok {p:Pn} (h:PR p):CellOk (blankC p):=⟨h, .inl ⟨rfl,width32⟩⟩
theorem right_fair {l:List Cel} (h:RightRow l):Fair l:=by
 refine ⟨fun i x hx=>?_,fun i x y hx hy k1 k2=>?_⟩
 ·obtain ⟨hp,⟨h1,h2⟩ | ⟨h1,h2,_⟩ | ⟨h1,h2,_⟩⟩:=h i x hx
  ·exact ⟨hp, .inl ⟨h1,h2⟩⟩
  ·exact ⟨hp, .inr (.inl ⟨h1,h2⟩)⟩
  ·exact ⟨hp, .inr (.inr ⟨h1,h2⟩)⟩
 ·obtain ⟨_,⟨h1,_⟩ | ⟨_,_,d,h2,_,h3⟩ | ⟨h1,_⟩⟩:=h i x hx
  ·omega
  ·rw [hy] at h2
   injection h2 with h2
   rw [h2]
   exact h3
  ·omega
theorem mend_right {l:List Cel} (f:Fair l):RightRow (mendL l):=by
 intro i z hz
 have hi:i<l.length:=by
  have:=(List.getElem?_eq_some_iff.1 hz).1
  rwa [mendL_len'] at this
 obtain ⟨x,hx⟩:=get_ex hi
 have kx:=kAt_some hx
 rw [mendL_get hx] at hz
 have hc:=f.1 i x hx
 cases hb:halfB l i with
 | true =>
  rw [hb] at hz
  simp only [if_true,Option.some.injEq] at hz
  subst hz
  exact ⟨hc.1, .inl ⟨rfl,width32⟩⟩
 | false =>
  rw [hb] at hz
  simp only [Bool.false_eq_true,if_false,Option.some.injEq] at hz
  subst hz
  obtain ⟨hp,h1 | ⟨h1,h2⟩ | ⟨h1,h2⟩⟩:=hc
  ·exact ⟨hp, .inl h1⟩
  ·have k1:kAt l (i+1)=2:=by
    unfold halfB at hb
    rw [kx,h1] at hb
    simpa using hb
   obtain ⟨y,hy⟩:∃ y,l[i+1]? = some y:=by
    cases hy:l[i+1]? with
    | none=>simp [kAt,hy] at k1
    | some y=>exact ⟨y,rfl⟩
   have ky:=kAt_some hy
   have hb2:halfB l (i+1)=false:=by
    unfold halfB
    rw [k1,Nat.add_sub_cancel,kx,h1]
    simp
   refine ⟨hp, .inr (.inl ⟨h1,h2,y,?_,by omega,f.2 i x y hx hy h1 (by omega)⟩)⟩
   rw [mendL_get hy,hb2]
   rfl
  ·have k1:¬i=0∧kAt l (i-1)=1:=by
    unfold halfB at hb
    rw [kx,h1] at hb
    simpa using hb
   obtain ⟨j,rfl⟩:∃ j,i=j+1:=⟨i-1,by omega⟩
   rw [Nat.add_sub_cancel] at k1
   obtain ⟨y,hy⟩:=get_ex (l:=l) (i:=j) (by omega)
   have ky:=kAt_some hy
   have hb2:halfB l j=false:=by
    unfold halfB
    rw [k1.2,kx,h1]
    simp
   refine ⟨hp, .inr (.inr ⟨h1,h2,j,y,rfl,?_,by omega,(f.2 j y x hy hx (by omega) h1).symm⟩)⟩
   rw [mendL_get hy,hb2]
   rfl
theorem wipe_fair {l:List Cel} (f:Fair l) (a b:Nat) {p:Pn} (hp:PR p):Fair (wipeRow l a b p):=by
 have get:∀ (i:Nat) (z:Cel),(wipeRow l a b p)[i]? = some z→∃ x,l[i]? = some x∧z=if a≤i∧i<b then blankC p else x:=by
  intro i z hz
  have hi:i<l.length:=by
   have:=(List.getElem?_eq_some_iff.1 hz).1
   rwa [wipeRow_len] at this
  obtain ⟨x,hx⟩:=get_ex hi
  rw [wipeRow_get a b p hx] at hz
  exact ⟨x,hx,(Option.some.inj hz).symm⟩
 refine ⟨fun i z hz=>?_,fun i z w hz hw k1 k2=>?_⟩
 ·obtain ⟨x,hx,rfl⟩:=get i z hz
  split
  ·exact blank_ok hp
  ·exact f.1 i x hx
 ·obtain ⟨x,hx,rfl⟩:=get i z hz
  obtain ⟨y,hy,rfl⟩:=get (i+1) w hw
  split at k1
  ·exact absurd k1 (by show ¬(0:Int)=1;decide)
  ·rename_i h1
   rw [if_neg h1]
   split at k2
   ·exact absurd k2 (by show ¬(0:Int)=2;decide)
   ·rename_i h2
    rw [if_neg h2]
    exact f.2 i x y hx hy k1 k2
theorem put_fair {l:List Cel} (f:Fair l) (c:Nat) (x:Int) (n:Nat) (hn:n=1∨n=2) (hx:widthR x=n) (hc:c+n≤l.length) {p:Pn} (hp:PR p):Fair (putRow l c x n p):=by
 have get:∀ (i:Nat) (z:Cel),(putRow l c x n p)[i]? = some z→∃ y,l[i]? = some y∧z=if i=c then ⟨x,if n=2 then 1 else 0,p⟩ else if n=2∧i=c+1 then ⟨0,2,p⟩ else y:=by
  intro i z hz
  have hi:i<l.length:=by
   have:=(List.getElem?_eq_some_iff.1 hz).1
   rwa [putRow_len'] at this
  obtain ⟨y,hy⟩:=get_ex hi
  rw [putRow_get c x n hn hc p hy] at hz
  exact ⟨y,hy,(Option.some.inj hz).symm⟩
 refine ⟨fun i z hz=>?_,fun i z w hz hw k1 k2=>?_⟩
 ·obtain ⟨y,hy,rfl⟩:=get i z hz
  split
  ·rcases hn with rfl | rfl
   ·exact ⟨hp, .inl ⟨rfl,hx⟩⟩
   ·exact ⟨hp, .inr (.inl ⟨rfl,hx⟩)⟩
  ·split
   ·exact ⟨hp, .inr (.inr ⟨rfl,rfl⟩)⟩
   ·exact f.1 i y hy
 ·obtain ⟨y,hy,rfl⟩:=get i z hz
  obtain ⟨y2,hy2,rfl⟩:=get (i+1) w hw
  by_cases e1:i=c
  ·rw [if_pos e1] at k1 ⊢
   rw [if_neg (by omega)] at k2 ⊢
   by_cases e2:n=2∧i+1=c+1
   ·rw [if_pos e2]
   ·have:¬n=2:=fun hh=>e2 ⟨hh,by omega⟩
    rw [if_neg this] at k1
    exact absurd k1 (by show ¬(0:Int)=1;decide)
  ·rw [if_neg e1] at k1 ⊢
   by_cases e2:n=2∧i=c+1
   ·rw [if_pos e2] at k1
    exact absurd k1 (by show ¬(2:Int)=1;decide)
   ·rw [if_neg e2] at k1 ⊢
    by_cases e3:i+1=c
    ·rw [if_pos e3] at k2
     have:(if n=2 then (1:Int) else 0)≠2:=by split<;>omega
     exact absurd k2 this
    ·rw [if_neg e3,if_neg (by omega)] at k2 ⊢
     exact f.2 i y y2 hy hy2 k1 k2
theorem set_fair {l:List Cel} (f:Fair l) (c:Nat) {p:Pn} (hp:PR p):Fair (l.set c (blankC p)):=by
 have get:∀ (i:Nat) (z:Cel),(l.set c (blankC p))[i]? = some z→z=blankC p∨l[i]? = some z:=by
  intro i z hz
  rw [List.getElem?_set] at hz
  split at hz
  ·split at hz
   ·exact .inl (Option.some.inj hz).symm
   ·cases hz
  ·exact .inr hz
 refine ⟨fun i z hz=>?_,fun i z w hz hw k1 k2=>?_⟩
 ·rcases get i z hz with rfl | h
  ·exact blank_ok hp
  ·exact f.1 i z h
 ·rcases get i z hz with rfl | h
  ·exact absurd k1 (by show ¬(0:Int)=1;decide)
  ·rcases get (i+1) w hw with rfl | h2
   ·exact absurd k2 (by show ¬(0:Int)=2;decide)
   ·exact f.2 i z w h h2 k1 k2
theorem part_fair {l:List Cel} (h:RightRow l) {c:Nat} (hc:c<l.length):Fair (partRow l c)∧kAt (partRow l c) (c-1)≠1∨c=0∧partRow l c=l:=by
 by_cases h0:c=0
 ·right
  refine ⟨h0,?_⟩
  unfold partRow
  rw [if_neg (by omega)]
 left
 have f:=right_fair h
 unfold partRow
 by_cases hk:kAt l c=2∧0<c
 ·rw [if_pos hk]
  obtain ⟨x,hx⟩:=get_ex (l:=l) (i:=c-1) (by omega)
  obtain ⟨y,hy⟩:=get_ex hc
  rw [getD_of hx,getD_of hy]
  refine ⟨set_fair (set_fair f _ (f.1 _ x hx).1) _ (f.1 _ y hy).1,?_⟩
  rw [kAt_set _ _ _ _ (by simp;omega),if_neg (by omega),kAt_set _ _ _ _ (by omega),if_pos rfl]
  show (0:Int)≠1;decide
 ·rw [if_neg hk]
  refine ⟨f,fun hh=>?_⟩
  have:=right_left h hh
  rw [show c-1+1=c by omega] at this
  exact hk ⟨this,by omega⟩
theorem fair_take {l:List Cel} (f:Fair l) (n:Nat):Fair (l.take n):=by
 have get:∀ (i:Nat) (z:Cel),(l.take n)[i]? = some z→l[i]? = some z:=by
  intro i z hz
  rw [List.getElem?_take] at hz
  split at hz
  ·exact hz
  ·cases hz
 exact ⟨fun i z hz=>f.1 i z (get i z hz),fun i z w hz hw=>f.2 i z w (get i z hz) (get (i+1) w hw)⟩
theorem fair_drop {l:List Cel} (f:Fair l) (n:Nat):Fair (l.drop n):=by
 refine ⟨fun i z hz=>f.1 (n+i) z (by rwa [List.getElem?_drop] at hz),fun i z w hz hw=>f.2 (n+i) z w (by rwa [List.getElem?_drop] at hz) (by rwa [List.getElem?_drop] at hw)⟩
theorem fair_rep {p:Pn} (hp:PR p) (n:Nat):Fair (List.replicate n (blankC p)):=by
 have get:∀ (i:Nat) (z:Cel),(List.replicate n (blankC p))[i]? = some z→z=blankC p:=by
  intro i z hz
  exact List.eq_of_mem_replicate (List.mem_of_getElem? hz)
 refine ⟨fun i z hz=>?_,fun i z w hz hw k1 k2=>?_⟩
 ·rw [get i z hz];exact blank_ok hp
 ·rw [get i z hz] at k1
  exact absurd k1 (by show ¬(0:Int)=1;decide)
theorem fair_app {a b:List Cel} (fa:Fair a) (fb:Fair b) (h:a=[]∨b=[]∨kAt a (a.length-1)≠1∨kAt b 0≠2):Fair (a++b):=by
 refine ⟨fun i z hz=>?_,fun i z w hz hw k1 k2=>?_⟩
 ·rw [List.getElem?_append] at hz
  split at hz
  ·exact fa.1 i z hz
  ·exact fb.1 _ z hz
 ·rw [List.getElem?_append] at hz hw
  by_cases h1:i+1<a.length
  ·rw [if_pos (by omega)] at hz
   rw [if_pos h1] at hw
   exact fa.2 i z w hz hw k1 k2
  ·rw [if_neg h1] at hw
   by_cases h2:i<a.length
   ·rw [if_pos h2] at hz
    have e1:i=a.length-1:=by omega
    have e2:i+1-a.length=0:=by omega
    rw [e2] at hw
    rw [e1] at hz
    rcases h with h | h | h | h
    ·rw [h] at h2;simp at h2
    ·rw [h] at hw;simp at hw
    ·rw [kAt_some hz] at h;exact absurd k1 h
    ·rw [kAt_some hw] at h;exact absurd k2 h
   ·rw [if_neg h2] at hz
    have e2:i+1-a.length=i-a.length+1:=by omega
    rw [e2] at hw
    exact fb.2 _ z w hz hw k1 k2
theorem rep_k {p:Pn} (n i:Nat):kAt (List.replicate n (blankC p)) i=0:=by
 unfold kAt
 cases h:(List.replicate n (blankC p))[i]? with
 | none=>rfl
 | some x =>
  have:x=blankC p:=List.eq_of_mem_replicate (List.mem_of_getElem? h)
  rw [this];rfl
theorem part_len (l:List Cel) (c:Nat):(partRow l c).length=l.length:=by
 unfold partRow
 split<;>simp
theorem in_fair {l:List Cel} (h:RightRow l) {c:Nat} (hc:c<l.length) (n:Nat) (hn:1≤n) {p:Pn} (hp:PR p):Fair (inRow l c n p):=by
 have f:Fair (partRow l c):=by
  rcases part_fair h hc with ⟨f,_⟩ | ⟨_,e⟩
  ·exact f
  ·rw [e];exact right_fair h
 unfold inRow
 refine fair_app (fair_app (fair_take f c) (fair_rep hp n) (.inr (.inr (.inr ?_)))) (fair_drop (fair_take f _) c) (.inr (.inr (.inl ?_)))
 ·rw [rep_k];decide
 ·have hl:(List.take c (partRow l c)++List.replicate n (blankC p)).length-1=(List.take c (partRow l c)).length+(n-1):=by simp;omega
  rw [hl]
  have:kAt (List.take c (partRow l c)++List.replicate n (blankC p)) ((List.take c (partRow l c)).length+(n-1))=kAt (List.replicate n (blankC p)) (n-1):=by
   unfold kAt
   rw [List.getElem?_append_right (by omega)]
   rw [show (List.take c (partRow l c)).length+(n-1)-(List.take c (partRow l c)).length=n-1 by omega]
  rw [this,rep_k]
  decide
theorem de_fair {l:List Cel} (h:RightRow l) {c:Nat} (hc:c<l.length) (n:Nat) {p:Pn} (hp:PR p):Fair (deRow l c n p):=by
 have key:Fair (partRow l c)∧(c=0∨kAt (partRow l c) (c-1)≠1):=by
  rcases part_fair h hc with ⟨f,hk⟩ | ⟨h0,e⟩
  ·exact ⟨f, .inr hk⟩
  ·rw [e];exact ⟨right_fair h, .inl h0⟩
 obtain ⟨f,hk⟩:=key
 unfold deRow
 refine fair_app (fair_app (fair_take f c) (fair_drop f _) ?_) (fair_rep hp n) (.inr (.inr (.inr (by rw [rep_k];decide))))
 rcases hk with h0 | hk
 ·left
  rw [h0]
  rfl
 ·by_cases h0:c=0
  ·left
   rw [h0]
   rfl
  ·right;right;left
   have hl:(List.take c (partRow l c)).length=c:=by rw [List.length_take,part_len];omega
   rw [hl]
   have:kAt (List.take c (partRow l c)) (c-1)=kAt (partRow l c) (c-1):=by
    unfold kAt
    rw [List.getElem?_take_of_lt (by omega)]
   rw [this]
   exact hk
theorem rows_right {g:Gd} (o:OkG g) (h:∀ r,r<g.h→RightRow (rowL g r)):RightL g.cells g.w:=by
 intro j x hj
 have hlt:=(List.getElem?_eq_some_iff.1 hj).1
 have hl:=o.2.2.2.2
 have hw:=o.2.2.1
 have hm:=Nat.mod_lt j (show 0<g.w by omega)
 have hd:=Nat.div_add_mod j g.w
 have hy:j / g.w<g.h:=by
  rw [Nat.div_lt_iff_lt_mul (by omega)]
  omega
 have ei:rowOff g (j / g.w)+j % g.w=j:=by rw [rowOff_def,Nat.mul_comm];exact hd
 have hr:(rowL g (j / g.w))[j % g.w]? = some x:=by rw [rowL_get,if_pos hm,ei];exact hj
 have fit:=h _ hy _ x hr
 have at':∀ i d,(rowL g (j / g.w))[i]? = some d→i<g.w∧g.cells[rowOff g (j / g.w)+i]? = some d:=by
  intro i d hi
  rw [rowL_get] at hi
  split at hi
  ·exact ⟨by assumption,hi⟩
  ·cases hi
 obtain ⟨hp,h1 | ⟨h1,h2,d,h3,h4,h5⟩ | ⟨h1,h2,i,d,h3,h4,h5,h6⟩⟩:=fit
 ·exact ⟨hp, .inl h1⟩
 ·obtain ⟨a1,a2⟩:=at' _ d h3
  refine ⟨hp, .inr (.inl ⟨h1,h2,?_,d,?_,h4,h5⟩)⟩
  ·have e:j+1=g.w*(j / g.w)+(j % g.w+1):=by omega
   rw [e,Nat.mul_add_mod,Nat.mod_eq_of_lt a1]
   omega
  ·rw [←ei,Nat.add_assoc]
   exact a2
 ·obtain ⟨a1,a2⟩:=at' _ d h4
  refine ⟨hp, .inr (.inr ⟨h1,h2,by omega,rowOff g (j / g.w)+i,d,by omega,a2,h5,h6⟩)⟩
theorem set_right {g:Gd} (h:RightG g) {r:Nat} (hr:r<g.h) {l:List Cel} (hl:l.length=g.w) (f:RightRow l):RightG (setRow g r l):=by
 have o':=h.1.setRow hr l hl
 refine ⟨o',rows_right o' fun y hy=>?_⟩
 have hy':y<g.h:=hy
 by_cases e:y=r
 ·subst e
  rw [rowL_setRow h.1 hr hl]
  exact f
 ·rw [rowL_setRow_ne h.1 hr hy' e _ hl]
  exact h.row hy'
theorem put_right {g:Gd} (h:RightG g) {r c:Nat} (hr:r<g.h) (x:Int) {p:Pn} (hp:PR p) (hw:widthR x=1∨widthR x=2) (hc:(c:Int)+widthR x≤g.w):RightG (putG g r c x p):=by
 have hl:=rowL_len h.1 hr
 unfold putG
 obtain ⟨n,hn⟩:∃ n:Nat,widthR x=n:=⟨(widthR x).toNat,by omega⟩
 rw [hn] at hc hw ⊢
 refine set_right h hr (by rw [mendL_len',putRow_len',hl]) (mend_right (put_fair (right_fair (h.row hr)) c x n (by omega) hn (by omega) hp))
theorem wipeG_right {g:Gd} (h:RightG g) {r:Nat} (hr:r<g.h) (a b:Int) {p:Pn} (hp:PR p):RightG (wipeG g r a b p):=by
 have hl:=rowL_len h.1 hr
 unfold wipeG
 exact set_right h hr (by rw [mendL_len',wipeRow_len,hl]) (mend_right (wipe_fair (right_fair (h.row hr)) _ _ hp))
theorem lineG_right {g:Gd} (h:RightG g) {r:Nat} (hr:r<g.h) (c:Nat) (what:Int) {p:Pn} (hp:PR p):RightG (lineG g r c what p):=by
 unfold lineG
 repeat' split
 ·exact wipeG_right h hr _ _ hp
 ·exact wipeG_right h hr _ _ hp
 ·exact wipeG_right h hr _ _ hp
 ·exact h
theorem erTo_right {g:Gd} (h:RightG g) {r:Nat} (hr:r<g.h) (c:Nat) (what:Int) {p:Pn} (hp:PR p):∀ i,i≤g.h→RightG (erTo g r c what p i)
 | 0,_=>lineG_right h hr c what hp
 | i+1,hi=>by
  have ih:=erTo_right h hr c what hp i (by omega)
  have e:=(erTo_ok h.1 hr c what p i (by omega)).2.1
  unfold erTo
  split
  ·exact wipeG_right ih (by omega) _ _ hp
  ·exact ih
theorem eraseG_right {g:Gd} (h:RightG g) {r:Nat} (hr:r<g.h) (c:Nat) (what:Int) {p:Pn} (hp:PR p):RightG (eraseG g r c what p):=by
 unfold eraseG
 split
 ·exact h
 ·exact erTo_right h hr c what hp _ (Nat.le_refl _)
theorem insG_right {g:Gd} (h:RightG g) {r c:Nat} (hr:r<g.h) (hc:c<g.w) (n:Int) (hn:1≤n) {p:Pn} (hp:PR p):RightG (insG g r c n p):=by
 have hl:=rowL_len h.1 hr
 obtain ⟨_,m1,m2⟩:=many_eq g c hc n hn
 unfold insG
 refine set_right h hr ?_ (mend_right (in_fair (h.row hr) (by omega) _ (by unfold manyC;omega) hp))
 rw [mendL_len',inRow_len _ _ _ _ (by rw [hl];exact m2),hl]
theorem delG_right {g:Gd} (h:RightG g) {r c:Nat} (hr:r<g.h) (hc:c<g.w) (n:Int) (hn:1≤n) {p:Pn} (hp:PR p):RightG (delG g r c n p):=by
 have hl:=rowL_len h.1 hr
 obtain ⟨_,m1,m2⟩:=many_eq g c hc n hn
 unfold delG
 refine set_right h hr ?_ (mend_right (de_fair (h.row hr) (by omega) _ hp))
 rw [mendL_len',deRow_len _ _ _ _ (by rw [hl];exact m2),hl]
theorem rep_right {p:Pn} (hp:PR p) (n:Nat):RightRow (List.replicate n (blankC p)):=by
 intro i x hx
 have:x=blankC p:=List.eq_of_mem_replicate (List.mem_of_getElem? hx)
 subst this
 exact ⟨hp, .inl ⟨rfl,width32⟩⟩
theorem shTo_right {g:Gd} (h:RightG g) {top bot:Nat} (hb:bot<g.h) (n:Int) {p:Pn} (hp:PR p):∀ i,top+i≤bot+1→RightG (shTo g top bot n p i)
 | 0,_=>h
 | i+1,hi=>by
  have ih:=shTo_right h (top:=top) hb n hp i (by omega)
  obtain ⟨o1,e1,e2,e3⟩:=shTo_ok (top:=top) h.1 hb n p i (by omega)
  show RightG (setRow (shTo g top bot n p i) (top+i) (shRow g top bot n p (top+i)))
  refine set_right ih (by omega) (by rw [shRow_len (top:=top) h.1 hb,e2]) ?_
  unfold shRow
  split
  ·exact h.row (by omega)
  ·exact rep_right hp _
theorem shG_right {g:Gd} (h:RightG g) {top bot:Nat} (ht:top≤bot) (hb:bot<g.h) (n:Int) {p:Pn} (hp:PR p):RightG (shG g top bot n p) :=
 shTo_right h hb n hp _ (by omega)
end Go.Proofs.YtlpchliomdomdaaGreat.LgTab
namespace Go.Proofs.YtlpchliomdomdaaGreat.LgTab
open Go Lg
set_option linter.unusedVariables false
set_option linter.unusedSimpArgs false
set_option maxRecDepth 8000
theorem margS_right {s:Sc} (o:OkS s) (r:RightS s) (e:Ev):RightS (margS s e):=by
 unfold margS
 simp only
 split
 ·exact r
 ·rename_i h
  have r2:RightS {s with top:=from1I e.par 0-1,bot:=argI e.par 1 s.g.h 1 s.g.h-1}:=⟨r.g,r.p,r.sp,r.s0,r.s1,r.u0,r.u1, .inl (by show from1I e.par 0-1<argI e.par 1 s.g.h 1 s.g.h-1;omega),r.pend⟩
  exact atS_right r2 _ _
end Go.Proofs.YtlpchliomdomdaaGreat.LgTab
namespace Go.Proofs.YtlpchliomdomdaaGreat.LgTab
open Go Lg
set_option linter.unusedVariables false
set_option linter.unusedSimpArgs false
set_option maxRecDepth 8000
theorem tabTo_find (t:Nat) (col cols:Int):∀ n,(tabTo t n).find? (fun c=>decide (col<c) && decide (c<cols))=none↔∀ c:Nat,c<n→hasT t c=true→¬(col<(c:Int)∧(c:Int)<cols):=by
 intro n
 unfold tabTo
 rw [List.find?_eq_none]
 constructor
 ·intro h c hc ht hh
  have:=h (c:Int) (by simp only [List.mem_map,List.mem_filter,List.mem_range];exact ⟨c,⟨hc,ht⟩,rfl⟩)
  simp [hh.1,hh.2] at this
 ·intro h x hx
  simp only [List.mem_map,List.mem_filter,List.mem_range] at hx
  obtain ⟨c,⟨hc,ht⟩,rfl⟩:=hx
  have:=h c hc ht
  simpa using this
theorem nextT_none {t:Nat} {col cols:Int} (h:∀ c:Nat,c<64→hasT t c=true→¬(col<(c:Int)∧(c:Int)<cols)):nextT t col cols=cols-1:=by
 unfold nextT tabL
 rw [(tabTo_find t col cols 64).2 h]
 rfl
theorem nextT_some {t:Nat} {col cols:Int} {c:Nat} (hc:c<64) (ht:hasT t c=true) (h0:col<(c:Int)) (h1:(c:Int)<cols) (h:∀ d:Nat,d<c→hasT t d=true→¬(col<(d:Int))):nextT t col cols=c:=by
 have key:∀ n,c<n→(tabTo t n).find? (fun c=>decide (col<c) && decide (c<cols))=some (c:Int):=by
  intro n hn
  induction n with
  | zero=>omega
  | succ n ih =>
   rw [tabTo_succ]
   by_cases hcn:c=n
   ·subst hcn
    rw [if_pos ht,List.find?_append,(tabTo_find t col cols c).2 (fun d hd hdt hh=>h d hd hdt hh.1)]
    simp [h0,h1]
   ·have:=ih (by omega)
    split
    ·rw [List.find?_append,this]
     rfl
    ·exact this
 unfold nextT tabL
 rw [key 64 hc]
 rfl
theorem hasT_bit (t c:Nat) (hc:c<64):hasT t c=t.testBit c:=by
 have hb:bitN (c:Int)=2 ^ c:=by unfold bitN;rw [if_pos (by omega)];simp
 unfold hasT
 rw [hb]
 cases h:t.testBit c
 ·rw [decide_eq_false]
  intro hh
  apply hh
  apply Nat.eq_of_testBit_eq
  intro i
  rw [Nat.testBit_and,Nat.testBit_two_pow,Nat.zero_testBit]
  by_cases e:c=i
  ·subst e;simp [h]
  ·simp [e]
 ·rw [decide_eq_true]
  intro hh
  have:=congrArg (fun n=>n.testBit c) hh
  simp [Nat.testBit_and,Nat.testBit_two_pow,h] at this
end Go.Proofs.YtlpchliomdomdaaGreat.LgTab
namespace Go.Proofs.YtlpchliomdomdaaGreat.LgTab
open Go Lg
set_option linter.unusedVariables false
set_option linter.unusedSimpArgs false
set_option maxRecDepth 8000
theorem newS_right (h w:Nat) (h0:1≤h∧h≤40) (h1:1≤w∧w≤60):RightS (newS h w):=by
 have o:=newS_ok h w h0 h1
 have pp:PR plainP:=⟨.inl rfl, .inl rfl,by decide,by decide⟩
 refine ⟨⟨o.g,?_⟩,pp,pp, .inl rfl, .inl rfl, .inl rfl, .inl rfl,?_,fun h=>by cases h⟩
 ·intro j c hj
  have e:c=blankC plainP:=by
   have:c∈List.replicate (h*w) (blankC plainP):=List.mem_of_getElem? hj
   exact List.eq_of_mem_replicate this
  subst e
  exact ⟨pp, .inl ⟨rfl,by decide⟩⟩
 ·show (0:Int)<(h:Int)-1∨(h=1∧(0:Int)=0∧(h:Int)-1=0)
  omega
end Go.Proofs.YtlpchliomdomdaaGreat.LgTab
