import Derived.Test.YtlpchliomdomdaaGreatPt23
import Derived.Test.YtlpchliomdomdaaGreatPt18
namespace Go.Proofs.YtlpchliomdomdaaGreat.LgTab
open Go Lg
set_option linter.unusedVariables false
set_option linter.unusedSimpArgs false
set_option maxRecDepth 8000
theorem orI_nat (a b:Nat) (ha:a<2 ^ 62) (hb:b<2 ^ 62):orI a b=((a ||| b:Nat):Int):=by
 have e1:((a:Int) % 18446744073709551616).toNat=a:=by omega
 have e2:((b:Int) % 18446744073709551616).toNat=b:=by omega
 rw [orI_def,e1,e2]
 have:=Nat.or_lt_two_pow ha hb
 exact wrap_id _ (by omega) (by omega)
theorem andnI_nat (a b:Nat) (ha:a<2 ^ 62) (hb:b<2 ^ 62):0≤andnI a b∧andnI a b≤a:=by
 have e1:((a:Int) % 18446744073709551616).toNat=a:=by omega
 have e2:((b:Int) % 18446744073709551616).toNat=b:=by omega
 rw [andnI_def,e1,e2]
 have:=@Nat.and_le_left a (18446744073709551615-b)
 rw [wrap_id _ (by omega) (by omega)]
 omega
theorem flagM_b (n:Int):∃ m:Nat,flagM n=m∧m≤128:=by
 unfold flagM
 repeat' split
 ·exact ⟨1,rfl,by omega⟩
 ·exact ⟨2,rfl,by omega⟩
 ·exact ⟨4,rfl,by omega⟩
 ·exact ⟨8,rfl,by omega⟩
 ·exact ⟨16,rfl,by omega⟩
 ·exact ⟨32,rfl,by omega⟩
 ·exact ⟨64,rfl,by omega⟩
 ·exact ⟨128,rfl,by omega⟩
 ·exact ⟨0,rfl,by omega⟩
theorem rgb_ok {x y z:Int} (hx:0≤x∧x≤255) (hy:0≤y∧y≤255) (hz:0≤z∧z≤255):colOk (rgb x y z):=by
 obtain ⟨a,rfl⟩:∃ a:Nat,x=a:=⟨x.toNat,by omega⟩
 obtain ⟨b,rfl⟩:∃ a:Nat,y=a:=⟨y.toNat,by omega⟩
 obtain ⟨c,rfl⟩:∃ a:Nat,z=a:=⟨z.toNat,by omega⟩
 have s1:shlI (a:Int) 16=((a*65536:Nat):Int):=by
  rw [shlI_def]
  have e:min (16:Int).toNat 64=16:=rfl
  rw [e,wrap_id _ (by omega) (by omega)]
  simp
 have s2:shlI (b:Int) 8=((b*256:Nat):Int):=by
  rw [shlI_def]
  have e:min (8:Int).toNat 64=8:=rfl
  rw [e,wrap_id _ (by omega) (by omega)]
  simp
 have e0:(16777216:Int)=((16777216:Nat):Int):=rfl
 have h1:16777216 ||| a*65536<2 ^ 25:=Nat.or_lt_two_pow (by omega) (by omega)
 have h2:(16777216 ||| a*65536) ||| b*256<2 ^ 25:=Nat.or_lt_two_pow h1 (by omega)
 have h3:((16777216 ||| a*65536) ||| b*256) ||| c<2 ^ 25:=Nat.or_lt_two_pow h2 (by omega)
 have l1:16777216≤16777216 ||| a*65536:=Nat.left_le_or
 have l2:16777216 ||| a*65536≤(16777216 ||| a*65536) ||| b*256:=Nat.left_le_or
 have l3:(16777216 ||| a*65536) ||| b*256≤((16777216 ||| a*65536) ||| b*256) ||| c:=Nat.left_le_or
 have e:rgb (a:Int) b c=((((16777216 ||| a*65536) ||| b*256) ||| c:Nat):Int):=by
  unfold rgb
  rw [s1,s2,e0,orI_nat _ _ (by omega) (by omega),orI_nat _ _ (by omega) (by omega),orI_nat _ _ (by omega) (by omega)]
 rw [e]
 right;right
 omega
theorem oneM_ok {p:Pn} (h:PR p) (n:Int):PR (oneM p n):=by
 have hpl:PR plainP:=⟨.inl rfl, .inl rfl,by decide,by decide⟩
 obtain ⟨g,hg⟩:∃ g:Nat,p.g=g:=⟨p.g.toNat,by have:=h.2.2;omega⟩
 have hg2:g≤255:=by have:=h.2.2;omega
 obtain ⟨m,hm,hm2⟩:=flagM_b n
 obtain ⟨m',hm',hm2'⟩:=flagM_b (n-20)
 unfold oneM
 split
 ·exact hpl
 split
 ·refine ⟨h.1,h.2.1,?_⟩
  show 0≤andnI p.g 3∧andnI p.g 3≤255
  have e3:(3:Int)=((3:Nat):Int):=rfl
  rw [hg,e3]
  have:=andnI_nat g 3 (by omega) (by omega)
  omega
 split
 ·refine ⟨h.1,h.2.1,?_⟩
  show 0≤andnI p.g (flagM (n-20))∧andnI p.g (flagM (n-20))≤255
  rw [hg,hm']
  have:=andnI_nat g m' (by omega) (by omega)
  omega
 split
 ·rename_i h1
  have:=of_within h1
  exact ⟨.inr (.inl (by show 0≤n-30∧n-30≤255;omega)),h.2.1,h.2.2⟩
 split
 ·rename_i h1
  have:=of_within h1
  exact ⟨h.1, .inr (.inl (by show 0≤n-40∧n-40≤255;omega)),h.2.2⟩
 split
 ·rename_i h1
  have:=of_within h1
  exact ⟨.inr (.inl (by show 0≤n-82∧n-82≤255;omega)),h.2.1,h.2.2⟩
 split
 ·rename_i h1
  have:=of_within h1
  exact ⟨h.1, .inr (.inl (by show 0≤n-92∧n-92≤255;omega)),h.2.2⟩
 split
 ·exact ⟨.inl rfl,h.2.1,h.2.2⟩
 split
 ·exact ⟨h.1, .inl rfl,h.2.2⟩
 ·refine ⟨h.1,h.2.1,?_⟩
  show 0≤orI p.g (flagM n)∧orI p.g (flagM n)≤255
  rw [hg,hm,orI_nat _ _ (by omega) (by omega)]
  have:g ||| m<2 ^ 8:=Nat.or_lt_two_pow (by omega) (by omega)
  omega
theorem ext_ok (l:List Int) {old:Int} (h:colOk old):colOk (extM l old).1:=by
 match l with
 | []=>exact h
 | [a]=>exact h
 | a :: b :: t =>
  by_cases h5:a=5
  ·have e:(extM (a :: b :: t) old).1=if within b 0 255 then b else old:=by simp [extM,h5]
   rw [e]
   split
   ·rename_i h1
    exact .inr (.inl (of_within h1))
   ·exact h
  ·match t with
   | [] =>
    have e:(extM [a,b] old).1=old:=by simp [extM,h5]
    rw [e]
    exact h
   | [c] =>
    have e:(extM [a,b,c] old).1=old:=by simp [extM,h5]
    rw [e]
    exact h
   | c :: d :: t =>
    by_cases h2:a=2
    ·have e:(extM (a :: b :: c :: d :: t) old).1=if (within b 0 255 && within c 0 255 && within d 0 255)=true then rgb b c d else old:=by
      subst h2
      simp only [extM,if_neg h5,if_true]
     rw [e]
     split
     ·rename_i h1
      simp only [Bool.and_eq_true] at h1
      exact rgb_ok (of_within h1.1.1) (of_within h1.1.2) (of_within h1.2)
     ·exact h
    ·have e:(extM (a :: b :: c :: d :: t) old).1=old:=by simp only [extM,if_neg h5,if_neg h2]
     rw [e]
     exact h
theorem step_ok (n:Int) (t:List Int) {p:Pn} (h:PR p):PR (stepL n t p).1:=by
 unfold stepL
 split
 ·exact ⟨ext_ok t h.1,h.2.1,h.2.2⟩
 split
 ·exact ⟨h.1,ext_ok t h.2.1,h.2.2⟩
 ·exact oneM_ok h n
theorem applyL_ok:∀ (m:Nat) (l:List Int) (p:Pn),l.length≤m→PR p→PR (applyL l p)
 | _,[],p,_,h=>by unfold applyL;exact h
 | 0,n :: t,p,hl,h=>by simp at hl
 | m+1,n :: t,p,hl,h=>by
  unfold applyL
  refine applyL_ok m _ _ ?_ (step_ok n t h)
  rw [List.length_drop]
  simp at hl
  omega
theorem applyM_ok {p:Pn} (h:PR p) (l:List Int):PR (applyM p l):=by
 unfold applyM
 split
 ·exact ⟨.inl rfl, .inl rfl,by decide,by decide⟩
 ·exact applyL_ok _ _ _ (Nat.le_refl _) h
theorem fill_ok {s:Sc} (r:RightS s):PR (fillP s):=⟨.inl rfl,r.p.2.1,by show (0:Int)≤0;omega,by show (0:Int)≤255;omega⟩
theorem grid_right {s:Sc} (r:RightS s) {G:Gd} (h:RightG G) (e1:G.h=s.g.h) (e2:G.w=s.g.w):RightS {s with g:=G} :=
 ⟨h,r.p,r.sp,r.s0,r.s1,r.u0,r.u1,by show s.top<s.bot∨(G.h=1∧s.top=0∧s.bot=0);rw [e1];exact r.mar,by show s.pend=true→s.wrap=true∧s.col=(G.w:Int)-1;rw [e2];exact r.pend⟩
theorem pend_right {s:Sc} (r:RightS s):RightS {s with pend:=false}:=⟨r.g,r.p,r.sp,r.s0,r.s1,r.u0,r.u1,r.mar,fun h=>by cases h⟩
theorem move_right {s:Sc} (o:OkS s) (r:RightS s) {t b:Int} (ht:0≤t) (hb:t≤b) (hb2:b<s.g.h) (n:Int):RightS (moveG s t b n):=by
 obtain ⟨_,e1,e2⟩:=moveG_dim o ht hb hb2 n (fillP s)
 exact grid_right r (shG_right r.g (by omega) (by omega) n (fill_ok r)) e1 e2
theorem feed_right {s:Sc} (o:OkS s) (r:RightS s):RightS (feedS s):=by
 unfold feedS
 split
 ·exact pend_right (move_right o r o.top.1 o.top.2 o.bot 1)
 ·exact atS_right r _ _
theorem back_right {s:Sc} (o:OkS s) (r:RightS s):RightS (backS s):=by
 unfold backS
 split
 ·exact pend_right (move_right o r o.top.1 o.top.2 o.bot (-1))
 ·exact atS_right r _ _
theorem set_s {c:Int} (h:¬(c≠48∧c≠66)):setOk c:=by unfold setOk;omega
theorem desig_right {s:Sc} (r:RightS s) (a b:Int):RightS (desigS s a b):=by
 unfold desigS
 split
 ·exact r
 rename_i h
 split
 ·exact ⟨r.g,r.p,r.sp,set_s h,r.s1,r.u0,r.u1,r.mar,r.pend⟩
 split
 ·exact ⟨r.g,r.p,r.sp,r.s0,set_s h,r.u0,r.u1,r.mar,r.pend⟩
 ·exact r
theorem rest_right {s:Sc} (r:RightS s):RightS (restS s):=⟨r.g,r.sp,r.sp,r.u0,r.u1,r.u0,r.u1,r.mar,fun h=>by cases h⟩
theorem save_right {s:Sc} (r:RightS s):RightS (saveS s):=⟨r.g,r.p,r.p,r.s0,r.s1,r.s0,r.s1,r.mar,r.pend⟩
theorem exec_right {s:Sc} (o:OkS s) (r:RightS s) (b:Int):RightS (execS s b):=by
 unfold execS
 repeat' split
 ·exact atS_right r _ _
 ·exact atS_right r _ _
 ·exact feed_right o r
 ·exact atS_right r _ _
 ·exact ⟨r.g,r.p,r.sp,r.s0,r.s1,r.u0,r.u1,r.mar,r.pend⟩
 ·exact ⟨r.g,r.p,r.sp,r.s0,r.s1,r.u0,r.u1,r.mar,r.pend⟩
 ·exact r
theorem esc_right {s:Sc} (o:OkS s) (r:RightS s) (e:Ev):RightS (escS s e):=by
 unfold escS
 repeat' split
 ·exact desig_right r _ _
 ·exact save_right r
 ·exact rest_right r
 ·exact feed_right o r
 ·exact feed_right (atS_ok o _ _) (atS_right r _ _)
 ·exact back_right o r
 ·exact ⟨r.g,r.p,r.sp,r.s0,r.s1,r.u0,r.u1,r.mar,r.pend⟩
 ·exact newS_right _ _ ⟨o.g.1,o.h⟩ ⟨o.g.2.2.1,o.w⟩
 ·exact ⟨r.g,r.p,r.sp,r.s0,r.s1,r.u0,r.u1,r.mar,r.pend⟩
 ·exact ⟨r.g,r.p,r.sp,r.s0,r.s1,r.u0,r.u1,r.mar,r.pend⟩
 ·exact r
theorem chg_right {s:Sc} (o:OkS s) (r:RightS s) (e:Ev):RightS (chgS s e):=by
 have hr:=o.row
 have hc:=o.col
 have hrn:s.row.toNat<s.g.h:=by omega
 have hcn:s.col.toNat<s.g.w:=by omega
 obtain ⟨_,e1,e2⟩:=chgG_ok o e
 have hp:=fill_ok r
 have hf:=from1I_b e.par 0
 refine pend_right (grid_right r ?_ e1 e2)
 unfold chgG
 simp only
 repeat' split
 ·exact eraseG_right r.g hrn _ _ hp
 ·exact lineG_right r.g hrn _ _ hp
 ·exact insG_right r.g hrn hcn _ hf.1 hp
 ·exact delG_right r.g hrn hcn _ hf.1 hp
 ·exact wipeG_right r.g hrn _ _ hp
 ·exact r.g
theorem rows_right' {s:Sc} (o:OkS s) (r:RightS s) (e:Ev):RightS (rowsS s e):=by
 have hb:=o.bot
 unfold rowsS
 simp only
 split
 ·exact move_right o r o.top.1 o.top.2 o.bot _
 split
 ·exact move_right o r o.top.1 o.top.2 o.bot _
 split
 ·exact r
 split
 ·exact atS_right (move_right o r o.row.1 (by omega) hb _) _ _
 ·exact atS_right (move_right o r o.row.1 (by omega) hb _) _ _
theorem setM_right {s:Sc} (r:RightS s) (n:Int) (on:Bool):RightS (setM s n on):=by
 unfold setM
 repeat' split
 ·exact ⟨r.g,r.p,r.sp,r.s0,r.s1,r.u0,r.u1,r.mar,r.pend⟩
 ·exact atS_right (s:={s with orig:=on}) ⟨r.g,r.p,r.sp,r.s0,r.s1,r.u0,r.u1,r.mar,r.pend⟩ _ _
 ·refine ⟨r.g,r.p,r.sp,r.s0,r.s1,r.u0,r.u1,r.mar,fun h=>?_⟩
  have h':(s.pend && on)=true:=h
  rw [Bool.and_eq_true] at h'
  exact ⟨h'.2,(r.pend h'.1).2⟩
 ·exact ⟨r.g,r.p,r.sp,r.s0,r.s1,r.u0,r.u1,r.mar,r.pend⟩
 ·exact r
theorem setTo_right {s:Sc} (r:RightS s) (l:List Int) (on:Bool):RightS (l.foldl (fun s n=>setM s n on) s):=by
 induction l generalizing s with
 | nil=>exact r
 | cons n l ih=>exact ih (setM_right r n on)
theorem csi_right {s:Sc} (o:OkS s) (r:RightS s) (e:Ev):RightS (csiS s e):=by
 unfold csiS
 split
 ·exact r
 split
 ·unfold setS
  split
  ·exact setTo_right r _ _
  ·exact r
 split
 ·exact r
 split
 ·exact moveS_right r e
 split
 ·exact chg_right o r e
 split
 ·exact rows_right' o r e
 split
 ·exact ⟨r.g,applyM_ok r.p _,r.sp,r.s0,r.s1,r.u0,r.u1,r.mar,r.pend⟩
 split
 ·exact margS_right o r e
 split
 ·unfold dropS
  repeat' split
  ·exact ⟨r.g,r.p,r.sp,r.s0,r.s1,r.u0,r.u1,r.mar,r.pend⟩
  ·exact ⟨r.g,r.p,r.sp,r.s0,r.s1,r.u0,r.u1,r.mar,r.pend⟩
  ·exact r
 split
 ·exact save_right r
 split
 ·exact rest_right r
 ·exact r
theorem prep_right {s:Sc} (o:OkS s) (r:RightS s) (w:Int):RightS (prep s w)∨∃ c,prep s w={s with col:=c}:=by
 unfold prep
 split
 ·exact .inl (feed_right (atS_ok o _ _) (atS_right r _ _))
 split
 ·exact .inr ⟨_,rfl⟩
 ·exact .inl r
theorem print_right {s:Sc} (o:OkS s) (r:RightS s) (x:Int):RightS (printS s x):=by
 unfold printS
 split
 ·exact r
 ·rename_i h
  have hw:=widthR_cases (drawnI s x)
  generalize drawnI s x=y at *
  obtain ⟨po,pw,p0,p1⟩:=prep_ok o (w:=widthR y) (by omega) (by omega)
  have hprep:RightG (prep s (widthR y)).g∧PR (prep s (widthR y)).p∧RightS {prep s (widthR y) with pend:=false}:=by
   rcases prep_right o r (widthR y) with h1 | ⟨c,h1⟩
   ·exact ⟨h1.g,h1.p,pend_right h1⟩
   ·rw [h1]
    exact ⟨r.g,r.p,⟨r.g,r.p,r.sp,r.s0,r.s1,r.u0,r.u1,r.mar,fun h=>by cases h⟩⟩
  obtain ⟨pg,pp,pr⟩:=hprep
  have hr:=po.row
  have hrn:(prep s (widthR y)).row.toNat<(prep s (widthR y)).g.h:=by omega
  have hg:=put_right pg hrn (c:=(prep s (widthR y)).col.toNat) y pp (by omega) (by omega)
  refine ⟨hg,pr.p,pr.sp,pr.s0,pr.s1,pr.u0,pr.u1,pr.mar,fun hpend=>?_⟩
  have h':(decide (((prep s (widthR y)).g.w:Int)≤(prep s (widthR y)).col+widthR y) && (prep s (widthR y)).wrap)=true:=hpend
  rw [Bool.and_eq_true,decide_eq_true_eq] at h'
  refine ⟨h'.2,?_⟩
  show mnI ((prep s (widthR y)).col+widthR y) (((prep s (widthR y)).g.w:Int)-1)=((prep s (widthR y)).g.w:Int)-1
  unfold mnI
  split<;>omega
theorem doS_right {s:Sc} (o:OkS s) (r:RightS s) (e:Ev):RightS (doS s e):=by
 unfold doS
 split
 ·exact print_right o r _
 split
 ·exact exec_right o r _
 split
 ·exact esc_right o r e
 split
 ·exact csi_right o r e
 ·exact r
end Go.Proofs.YtlpchliomdomdaaGreat.LgTab
namespace Go.Proofs.YtlpchliomdomdaaGreat.LgTab
open Go Lg
set_option linter.unusedVariables false
set_option linter.unusedSimpArgs false
set_option maxRecDepth 8000
theorem sp283 (k:Nat) (p:Pn):evFun (clOf (modsR tab k) 3) s283 [pnD p]=some (celD (blankC p),[]):=by
 rw [evFun_evB rfl]
 unfold s283
 simp -implicitDefEqProofs [blankC]
theorem sp290 (k:Nat):evFun (clOf (modsR tab k) 3) s290 []=some (pnD plainP,[]):=by
 rw [evFun_evB rfl]
 unfold s290
 simp -implicitDefEqProofs [plainP]
theorem sp306 (k:Nat) (s:Sc):evFun (clOf (modsR tab k) 3) s306 [scD s]=some (pnD (fillP s),[]):=by
 rw [evFun_evB rfl]
 unfold s306
 simp -implicitDefEqProofs [fillP]
def oneI (l:List Int) (i:Nat) (none:Int):Int:=match l[i]? with | some x=>if x<1 then none else x | .none=>none
theorem sp311 (k:Nat) (e:Ev) (i:Nat) (none:Int):evFun (clOf (modsR tab k) 3) s311 [evD e,I i,I none]=some (I (oneI e.par i none),[]):=by
 obtain ⟨ek,er,ep,ei,ef,ps,et⟩:=e
 rw [evFun_evB rfl]
 unfold s311 oneI Ev.par
 cases ps with
 | none =>
  have h:(0:Int)≤(i:Int):=by omega
  simp -implicitDefEqProofs [parD,h]
 | some l =>
  by_cases hi:i<l.length
  ·obtain ⟨x,hx⟩:=get_ex hi
   have hi':¬(l.length:Int)≤i:=by omega
   have hi2:¬l.length≤i:=by omega
   have hg:=intsD_at hx
   by_cases h1:x<1
   ·simp -implicitDefEqProofs [parD,hi,hi',hi2,hg,hx,get_of hx,h1]
   ·simp -implicitDefEqProofs [parD,hi,hi',hi2,hg,hx,get_of hx,h1]
  ·have hx:l[i]? = .none:=List.getElem?_eq_none (by omega)
   have hi':(l.length:Int)≤i:=by omega
   have hi2:l.length≤i:=by omega
   simp -implicitDefEqProofs [parD,hi,hi',hi2,hx]
theorem sp311_0 (k:Nat) (e:Ev) (none:Int):evFun (clOf (modsR tab k) 3) s311 [evD e,I 0,I none]=some (I (oneI e.par 0 none),[]):=sp311 k e 0 none
theorem sp311_1 (k:Nat) (e:Ev) (none:Int):evFun (clOf (modsR tab k) 3) s311 [evD e,I 1,I none]=some (I (oneI e.par 1 none),[]):=sp311 k e 1 none
theorem near_ref (n:Int) {all:Int} (h:1≤all):mnI (mxI n 0) (all-1)=nearI n all:=(clampEq (by omega) n).symm
theorem sp300 (k:Nat) (s:Sc) (o:OkS s) (r c:Int):evFun (clOf (modsR tab k) 3) s300 [scD s,I r,I c]=some (scD (atS s r c),[]):=by
 have h1:=o.h
 have h2:=o.w
 have h3:=o.g.1
 have h4:=o.g.2.2.1
 have e1:=near_ref r (all:=(s.g.h:Int)) (by omega)
 have e2:=near_ref c (all:=(s.g.w:Int)) (by omega)
 have e:atS s r c={s with row:=nearI r s.g.h,col:=nearI c s.g.w,pend:=false}:=rfl
 rw [e]
 rw [evFun_evB rfl]
 unfold s300
 simp -implicitDefEqProofs [e1,e2,wr_id ((s.g.h:Int)-1) (by omega) (by omega),wr_id ((s.g.w:Int)-1) (by omega) (by omega)]
theorem sp314 (k:Nat) (s:Sc):evFun (clOf (modsR tab k) 3) s314 [scD s]=some (scD (saveS s),[]):=by
 rw [evFun_evB rfl]
 unfold s314
 simp -implicitDefEqProofs [saveS]
theorem rest_ok' {s:Sc} (o:OkS s):OkS {s with p:=s.sv.p,s0:=s.sv.u0,s1:=s.sv.u1,sh:=s.sv.sh,orig:=s.sv.o}:=⟨o.g,o.h,o.w,o.row,o.col,o.top,o.bot,o.tabs,o.ssh,o.ssh,o.srow,o.scol⟩
theorem sp312 (k:Nat) (s:Sc) (o:OkS s):evFun (clOf (modsR tab (k+1)) 3) s312 [scD s]=some (scD (restS s),[]):=by
 have w:=fun q=>sp300 q _ (rest_ok' o) s.sv.r s.sv.c
 have e:restS s=atS {s with p:=s.sv.p,s0:=s.sv.u0,s1:=s.sv.u1,sh:=s.sv.sh,orig:=s.sv.o} s.sv.r s.sv.c:=rfl
 rw [e]
 generalize atS {s with p:=s.sv.p,s0:=s.sv.u0,s1:=s.sv.u1,sh:=s.sv.sh,orig:=s.sv.o} s.sv.r s.sv.c=S' at *
 rw [evFun_evB rfl]
 unfold s312
 simp -implicitDefEqProofs [cw300,cr300,w]
theorem sp308 (k:Nat) (s:Sc) (o:OkS s):evFun (clOf (modsR tab (k+1)) 3) s308 [scD s]=some (scD (homeS s),[]):=by
 have w:=fun q r=>sp300 q s o r 0
 have e:homeS s=atS s (if s.orig then s.top else 0) 0:=rfl
 rw [e]
 cases ho:s.orig with
 | true =>
  have w1:=fun q=>w q s.top
  simp only [if_true]
  generalize atS s s.top 0=S' at *
  simp only [scD,scL,ho] at w1 ⊢
  rw [evFun_evB rfl]
  unfold s308
  simp -implicitDefEqProofs [cw300,w1]
 | false =>
  have w1:=fun q=>w q 0
  simp only [Bool.false_eq_true,if_false]
  generalize atS s 0 0=S' at *
  simp only [scD,scL,ho] at w1 ⊢
  rw [evFun_evB rfl]
  unfold s308
  simp -implicitDefEqProofs [cw300,w1]
theorem sp307 (k:Nat) (s:Sc) (o:OkS s) (r c:Int) (hr : -100000≤r∧r≤100000):evFun (clOf (modsR tab (k+1)) 3) s307 [scD s,I r,I c]=some (scD (goS s r c),[]):=by
 have w:=fun q r=>sp300 q s o r c
 have e:goS s r c=atS s (if s.orig then mnI (s.top+r) s.bot else r) c:=rfl
 have ht:=o.top
 have hb:=o.bot
 have hh:=o.h
 rw [e]
 cases ho:s.orig with
 | true =>
  have w1:=fun q=>w q (mnI (s.top+r) s.bot)
  simp only [if_true]
  generalize atS s (mnI (s.top+r) s.bot) c=S' at *
  simp only [scD,scL,ho] at w1 ⊢
  rw [evFun_evB rfl]
  unfold s307
  simp -implicitDefEqProofs [cw300,w1,wr_id (s.top+r) (by omega) (by omega)]
 | false =>
  have w1:=fun q=>w q r
  simp only [Bool.false_eq_true,if_false]
  generalize atS s r c=S' at *
  simp only [scD,scL,ho] at w1 ⊢
  rw [evFun_evB rfl]
  unfold s307
  simp -implicitDefEqProofs [cw300,w1]
set_option maxHeartbeats 2000000 in
theorem sp309 (k:Nat) (s:Sc) (o:OkS s) (n:Int) (on:Bool):evFun (clOf (modsR tab (k+2)) 3) s309 [scD s,I n,B on]=some (scD (setM s n on),[]):=by
 have w2:=fun q=>sp308 q _ (orig_ok o on)
 have e:setM s n on=if n=1 then {s with keys:=on} else if n=6 then homeS {s with orig:=on} else if n=7 then {s with wrap:=on,pend:=s.pend && on} else if n=25 then {s with shown:=on} else s:=rfl
 rw [e]
 clear e
 generalize homeS {s with orig:=on}=S' at *
 rw [evFun_evB rfl]
 unfold s309
 by_cases h1:n=1
 ·simp -implicitDefEqProofs [h1]
 by_cases h2:n=6
 ·simp -implicitDefEqProofs [h2,cw308,w2]
 by_cases h3:n=7
 ·cases hp:s.pend
  ·simp only [scD,scL,hp]
   simp -implicitDefEqProofs [h3,hp]
  ·simp only [scD,scL,hp]
   simp -implicitDefEqProofs [h3,hp]
 by_cases h4:n=25
 ·simp -implicitDefEqProofs [h4]
 simp -implicitDefEqProofs [h1,h2,h3,h4]
theorem sp299 (k:Nat) (l:List Int) (i:Nat):evFun (clOf (modsR tab k) 3) s299 [.sl 1 (intsD l),I i]=some (I (match l[i]? with | some x=>mxI x 0 | none=>0),[]):=by
 rw [evFun_evB rfl]
 unfold s299
 by_cases hi:i<l.length
 ·obtain ⟨x,hx⟩:=get_ex hi
  have hi':(i:Int)<l.length:=by omega
  have hg:=intsD_at hx
  simp -implicitDefEqProofs [hi,hi',hg,hx,get_of hx]
 ·have hx:l[i]? = .none:=List.getElem?_eq_none (by omega)
  have hi':¬(i:Int)<l.length:=by omega
  simp -implicitDefEqProofs [hi,hi',hx]
end Go.Proofs.YtlpchliomdomdaaGreat.LgTab
