import Derived.Test.YtlpchliomdomdaaGreatPt17
namespace Go.Proofs.YtlpchliomdomdaaGreat.LgTab
open Go Lg
set_option linter.unusedVariables false
set_option linter.unusedSimpArgs false
set_option maxRecDepth 8000
theorem sp174 (k:Nat) (n lo hi:Int) (h1 : -1099511627776≤lo) (h2:lo≤hi) (h3:hi≤1099511627776):evFun (clOf (modsR tab k) 3) s174 [I n,I lo,I hi]=some (I (lo+n % (hi-lo+1)),[]):=by
 rw [evFun_evB rfl]
 unfold s174
 have e1:wr (hi-lo)=hi-lo:=wr_id _ (by omega) (by omega)
 have e2:wr (hi-lo+1)=hi-lo+1:=wr_id _ (by omega) (by omega)
 have hd:0<hi-lo+1:=by omega
 have hz:¬(hi-lo+1=0):=by omega
 have b0:=Int.emod_nonneg n (b:=hi-lo+1) (by omega)
 have b1:=Int.emod_lt_of_pos n hd
 by_cases hn:n.tmod (hi-lo+1)<0
 ·have t:=tmod_neg hd hn
  have e3:wr (n.tmod (hi-lo+1)+hi)=n.tmod (hi-lo+1)+hi:=wr_id _ (by omega) (by omega)
  have e4:wr (n.tmod (hi-lo+1)+hi-lo)=n.tmod (hi-lo+1)+hi-lo:=wr_id _ (by omega) (by omega)
  have e5:wr (n.tmod (hi-lo+1)+hi-lo+1)=n % (hi-lo+1):=by rw [wr_id _ (by omega) (by omega)];omega
  have e6:wr (lo+n % (hi-lo+1))=lo+n % (hi-lo+1):=wr_id _ (by omega) (by omega)
  simp -implicitDefEqProofs [binD_rem,e1,e2,e3,e4,e5,e6,hz,hn]
 ·have t:=tmod_pos hd hn
  rw [t] at hn
  have e6:wr (lo+n % (hi-lo+1))=lo+n % (hi-lo+1):=wr_id _ (by omega) (by omega)
  simp -implicitDefEqProofs [binD_rem,e1,e2,e6,hz,hn,t]
theorem sp174c (k:Nat) (n lo hi:Int) (h1 : -1099511627776≤lo) (h2:lo≤hi) (h3:hi≤1099511627776) (w:Int) (hw:w=lo+n % (hi-lo+1)):evFun (clOf (modsR tab k) 3) s174 [I n,I lo,I hi]=some (I w,[]):=by rw [hw];exact sp174 k n lo hi h1 h2 h3
def colOk (c:Int):Prop:=c = -1∨(0≤c∧c≤255)∨(16777216≤c∧c<33554432)
def PR (p:Pn):Prop:=colOk p.f∧colOk p.b∧0≤p.g∧p.g≤255
noncomputable def colourM:Int→Int:=hid fun n =>
 if n % 4=0 then -1 else if n % 4=1 then wr (n.tdiv 4) % 16 else if n % 4=2 then wr (n.tdiv 4) % 256 else 16777216+wr (n.tdiv 4) % 16777216
theorem colourM_def (n:Int):colourM n=if n % 4=0 then -1 else if n % 4=1 then wr (n.tdiv 4) % 16 else if n % 4=2 then wr (n.tdiv 4) % 256 else 16777216+wr (n.tdiv 4) % 16777216:=by unfold colourM;rw [hid_eq]
theorem colourM_ok (n:Int):colOk (colourM n):=by
 rw [colourM_def]
 unfold colOk
 repeat' split
 all_goals omega
theorem sp180 (k:Nat) (n:Int):evFun (clOf (modsR tab (k+1)) 3) s180 [I n]=some (I (colourM n),[]):=by
 rw [evFun_evB rfl]
 unfold s180
 rw [colourM_def]
 have w0:=sp174 k n 0 3 (by omega) (by omega) (by omega)
 have w1:=sp174 k (wr (n.tdiv 4)) 0 15 (by omega) (by omega) (by omega)
 have w2:=sp174 k (wr (n.tdiv 4)) 0 255 (by omega) (by omega) (by omega)
 have w3:=sp174 k (wr (n.tdiv 4)) 0 16777215 (by omega) (by omega) (by omega)
 have e:wr (16777216+wr (n.tdiv 4) % 16777216)=16777216+wr (n.tdiv 4) % 16777216:=wr_id _ (by omega) (by omega)
 simp at w0 w1 w2 w3
 by_cases h0:n % 4=0
 ·simp -implicitDefEqProofs [cw174,w0,h0]
 by_cases h1:n % 4=1
 ·simp -implicitDefEqProofs [cw174,w0,w1,h1]
 by_cases h2:n % 4=2
 ·simp -implicitDefEqProofs [cw174,w0,w2,h2]
 simp -implicitDefEqProofs [cw174,w0,w3,h0,h1,h2,e]
noncomputable def penM (a b c:Int):Pn:=⟨colourM a,colourM b,c % 256⟩
theorem penM_ok (a b c:Int):PR (penM a b c):=⟨colourM_ok a,colourM_ok b,by show 0≤c % 256∧c % 256≤255;omega⟩
theorem sp65 (k:Nat) (a b c:Int):evFun (clOf (modsR tab (k+2)) 3) s65 [.agg [I a,I b,I c]]=some (pnD (penM a b c),[]):=by
 have w:=fun q=>sp174 q c 0 255 (by omega) (by omega) (by omega)
 simp at w
 have w2:=fun q n=>sp180 q n
 unfold penM
 rw [evFun_evB rfl]
 unfold s65
 simp -implicitDefEqProofs [cr180,cw174,sp180,w]
theorem sp181 (k:Nat) (l:List Int) (i:Int) (hi:0≤i) (hl:l.length≤9223372036854775807):∃ v,evFun (clOf (modsR tab k) 3) s181 [.sl 1 (intsD l),I i]=some (I v,[]):=by
 by_cases h0:l.length=0
 ·have:l=[]:=List.length_eq_zero_iff.1 h0
  subst this
  refine ⟨0,?_⟩
  rw [evFun_evB rfl]
  unfold s181
  simp -implicitDefEqProofs []
 ·have hp:(0:Int)<l.length:=by omega
  have b0:0≤i.tmod l.length:=Int.tmod_nonneg _ hi
  have b1:i.tmod l.length<l.length:=by
   have:=tmod_pos hp (Int.not_lt.2 b0)
   have:=Int.emod_lt_of_pos i hp
   omega
  obtain ⟨v,hx⟩:=get_ex (l:=l) (i:=(i.tmod l.length).toNat) (by omega)
  have hx':=intsD_at hx
  refine ⟨v,?_⟩
  rw [evFun_evB rfl]
  unfold s181
  have hz:¬(l.length:Int)=0:=by omega
  have b2:(i.tmod l.length).toNat<l.length:=by omega
  simp -implicitDefEqProofs [hz,h0,b0,hx',b2]
def FitC (l:List Cel) (w j:Nat) (c:Cel):Prop :=
 PR c.p∧((c.k=0∧widthR c.r=1)∨(c.k=1∧widthR c.r=2∧(j+1) % w≠0∧∃ d,l[j+1]? = some d∧d.k=2∧d.p=c.p)∨(c.k=2∧c.r=0∧j % w≠0∧∃ i d,j=i+1∧l[i]? = some d∧d.k=1∧d.p=c.p))
def RightL (l:List Cel) (w:Nat):Prop:=∀ j c,l[j]? = some c→FitC l w j c
theorem FitC.app {l:List Cel} {w j:Nat} {c:Cel} (h:FitC l w j c) (t:List Cel):FitC (l++t) w j c:=by
 have up:∀ {i:Nat} {d:Cel},l[i]? = some d→(l++t)[i]? = some d:=fun {i d} hd=>by
  rw [List.getElem?_append_left (List.getElem?_eq_some_iff.1 hd).1];exact hd
 obtain ⟨hp,h | ⟨h1,h2,h3,d,h4,h5⟩ | ⟨h1,h2,h3,i,d,h4,h5,h6⟩⟩:=h
 ·exact ⟨hp, .inl h⟩
 ·exact ⟨hp, .inr (.inl ⟨h1,h2,h3,d,up h4,h5⟩)⟩
 ·exact ⟨hp, .inr (.inr ⟨h1,h2,h3,i,d,h4,up h5,h6⟩)⟩
theorem RightL.one {l:List Cel} {w:Nat} (h:RightL l w) (r:Int) (p:Pn) (hp:PR p) (hr:widthR r=1):RightL (l++[⟨r,0,p⟩]) w:=by
 intro j c hj
 rcases Nat.lt_or_ge j l.length with hlt | hge
 ·rw [List.getElem?_append_left hlt] at hj
  exact (h j c hj).app _
 ·rw [List.getElem?_append_right hge] at hj
  rcases hj0:j-l.length with _ | n
  ·rw [hj0] at hj
   simp only [List.getElem?_cons_zero,Option.some.injEq] at hj
   subst hj
   exact ⟨hp, .inl ⟨rfl,hr⟩⟩
  ·rw [hj0] at hj
   simp at hj
theorem RightL.two {l:List Cel} {w:Nat} (h:RightL l w) (r:Int) (p:Pn) (hp:PR p) (hr:widthR r=2) (hm:(l.length+1) % w≠0):RightL (l++[⟨r,1,p⟩,⟨0,2,p⟩]) w:=by
 intro j c hj
 rcases Nat.lt_or_ge j l.length with hlt | hge
 ·rw [List.getElem?_append_left hlt] at hj
  exact (h j c hj).app _
 ·rw [List.getElem?_append_right hge] at hj
  rcases hj0:j-l.length with _ | _ | n
  ·rw [hj0] at hj
   simp only [List.getElem?_cons_zero,Option.some.injEq] at hj
   subst hj
   obtain rfl:j=l.length:=by omega
   refine ⟨hp, .inr (.inl ⟨rfl,hr,hm,⟨0,2,p⟩,?_,rfl,rfl⟩)⟩
   rw [List.getElem?_append_right (by omega)]
   simp
  ·rw [hj0] at hj
   simp only [List.getElem?_cons_succ,List.getElem?_cons_zero,Option.some.injEq,Nat.zero_add] at hj
   subst hj
   obtain rfl:j=l.length+1:=by omega
   refine ⟨hp, .inr (.inr ⟨rfl,rfl,hm,l.length,⟨r,1,p⟩,rfl,?_,rfl,rfl⟩)⟩
   rw [List.getElem?_append_right (by omega)]
   simp
  ·rw [hj0] at hj
   simp at hj
theorem width_a (u:Int) (h:0≤u∧u≤9):widthR (97+u)=1:=by
 have hc:u=0∨u=1∨u=2∨u=3∨u=4∨u=5∨u=6∨u=7∨u=8∨u=9:=by omega
 rcases hc with rfl | rfl | rfl | rfl | rfl | rfl | rfl | rfl | rfl | rfl<;>rfl
theorem width_w (u:Int) (h:0≤u∧u≤8):widthR (19968+u)=2:=by
 have hc:u=0∨u=1∨u=2∨u=3∨u=4∨u=5∨u=6∨u=7∨u=8:=by omega
 rcases hc with rfl | rfl | rfl | rfl | rfl | rfl | rfl | rfl | rfl<;>rfl
def RightG (g:Gd):Prop:=OkG g∧RightL g.cells g.w
set_option maxHeartbeats 4000000 in
theorem sp64 (k:Nat) (a b:Int) (rs ps:List Int) (hr:rs.length≤9223372036854775807) (hp:ps.length≤9223372036854775807):∃ g:Gd,evFun (clOf (modsR tab (k+3)) 3) s64 [.agg [I a,I b, .sl 1 (intsD rs), .sl 1 (intsD ps)]]=some (gdD g,[])∧RightG g∧g.h≤5∧g.w≤9:=by
 rw [evFun_evB rfl]
 unfold s64
 obtain ⟨h,hh⟩:∃ h:Nat,(h:Int)=1+a % (5-1+1):=⟨(1+a % (5-1+1)).toNat,by omega⟩
 have wh:=fun q=>sp174c q a 1 5 (by omega) (by omega) (by omega) h hh
 have bh:1≤h∧h≤5:=by omega
 obtain ⟨w,hw⟩:∃ w:Nat,(w:Int)=1+b % (9-1+1):=⟨(1+b % (9-1+1)).toNat,by omega⟩
 have ww:=fun q=>sp174c q b 1 9 (by omega) (by omega) (by omega) w hw
 have bw:1≤w∧w≤9:=by omega
 clear hh hw
 obtain ⟨n,hn⟩:∃ n,n=h*w:=⟨_,rfl⟩
 have bn:1≤n∧n≤45:=by
  have hc:h=1∨h=2∨h=3∨h=4∨h=5:=by omega
  rcases hc with rfl | rfl | rfl | rfl | rfl<;>omega
 have em:wr ((h:Int)*w)=n:=by rw [hn,←Int.natCast_mul];exact wr_id _ (by omega) (by omega)
 simp -implicitDefEqProofs [cr174,cw174,wh,ww]
 refine evB_inv (P:=fun o=>∃ g:Gd,o=some (gdD g,[])∧RightG g∧g.h≤5∧g.w≤9) (σ:=List Cel) (fun s=>[I h,I w,I s.length, .obx [I a,I b, .sl 1 (intsD rs), .sl 1 (intsD ps)], .obx [I 0,I 0, .sn], .obx [I h,I w,if s=[] then .sn else .osl true 5 (celsD s)]]) (fun s=>60-s.length)
  (fun s=>s.length≤n∧RightL s w) (fun ex t=>ex = .exit 0∧∃ cs:List Cel,t=[I h,I w,I n, .obx [I a,I b, .sl 1 (intsD rs), .sl 1 (intsD ps)], .obx [I 0,I 0, .sn], .obx [I h,I w, .osl true 5 (celsD cs)]]∧cs.length=n∧RightL cs w) [] ?_ ⟨by simp,by intro j c hj;simp at hj⟩ (by simp [rounds]) ?_ ?_
 ·simp -implicitDefEqProofs []
 ·rintro cells ⟨hi,hall⟩
  by_cases hlt:cells.length<n
  ·left
   obtain ⟨i,ei⟩:∃ i,i=cells.length:=⟨_,rfl⟩
   have hlt':(i:Int)<n:=by omega
   obtain ⟨v1,w1⟩:=sp181 (k+2) rs i (by omega) hr
   obtain ⟨v2,w2⟩:=sp181 (k+2) ps ((i:Int) / 3) (by omega) hp
   have w65:=sp65 k v2 (wr (v2.tdiv 16)) (wr (v2.tdiv 64))
   have okp:=penM_ok v2 (wr (v2.tdiv 16)) (wr (v2.tdiv 64))
   have ed:wr ((i:Int) / 3)=(i:Int) / 3:=wr_id _ (by omega) (by omega)
   have ed0:(i:Int).tdiv 3=(i:Int) / 3:=Int.tdiv_eq_ediv_of_nonneg (by omega)
   have e1:wr ((i:Int)+1)=(i:Int)+1:=wr_id _ (by omega) (by omega)
   have e2:wr ((i:Int)+1+1)=(i:Int)+2:=by rw [wr_id _ (by omega) (by omega)];omega
   generalize penM v2 (wr (v2.tdiv 16)) (wr (v2.tdiv 64))=P at *
   obtain ⟨u,hu⟩:∃ u,u=0+v1 % (9-0+1):=⟨_,rfl⟩
   have wu:=fun q=>sp174c q v1 0 9 (by omega) (by omega) (by omega) u hu
   have bu:0≤u∧u≤9:=by omega
   clear hu
   have wz:¬w=0:=by omega
   have tT:List.take i cells=cells:=List.take_of_length_le (by omega)
   have b1:(i+1)*40≤140737488355328:=by omega
   have b2:(i+2)*40≤140737488355328:=by omega
   have tm:((i:Int)+1).tmod w=(((i+1) % w:Nat):Int):=by
    rw [Int.tmod_eq_emod_of_nonneg (by omega)]
    simp
   by_cases hw:v1.tmod 5=4∧¬(i+1) % w=0
   ·obtain ⟨hw1,hw2⟩:=hw
    have v9:0≤v1.tmod 9∧v1.tmod 9≤8:=by
     have hv:0≤v1:=by
      rcases Int.le_total 0 v1 with h | h
      ·exact h
      ·have:v1.tmod 5≤0:=by
        have:=Int.tmod_nonneg (a:= -v1) 5 (by omega)
        rw [Int.neg_tmod] at this
        omega
       omega
     have:=Int.tmod_nonneg 9 hv
     have:=Int.tmod_lt_of_pos v1 (b:=9) (by omega)
     omega
    have e9:wr (19968+v1.tmod 9)=19968+v1.tmod 9:=wr_id _ (by omega) (by omega)
    have e32:IntKind.i32.wrap (19968+v1.tmod 9)=19968+v1.tmod 9:=wrap_i32 _ (by omega) (by omega)
    have hm:i+1<n:=by
     rcases Nat.lt_or_ge (i+1) n with hl | hl
     ·exact hl
     ·exfalso
      apply hw2
      have:i+1=h*w:=by omega
      rw [this,Nat.mul_mod_left]
    have hne:¬((i:Int)+1).tmod w=0:=by rw [tm];omega
    refine ⟨cells++[⟨19968+v1.tmod 9,1,P⟩,⟨0,2,P⟩],?_,by simp;omega,by simp;omega,hall.two _ _ okp (width_w _ v9) (by rw [←ei];exact hw2)⟩
    by_cases hcs:cells=[]
    ·subst hcs
     simp only [List.length_nil] at ei
     subst ei
     have h0n:0<n:=hlt
     have hne':¬(1:Int).tmod w=0:=hne
     have w1':evFun (clOf (modsR tab (k+2)) 3) s181 [.sl 1 (intsD rs),I 0]=some (I v1,[]):=w1
     have w2':evFun (clOf (modsR tab (k+2)) 3) s181 [.sl 1 (intsD ps),I 0]=some (I v2,[]):=w2
     clear w1 w2 ed ed0 e1 e2 hne
     simp -implicitDefEqProofs [em,h0n,cw181,w1',w2',cw65,w65,wr_id ((0:Int)) (by omega) (by omega),wr_id ((1:Int)) (by omega) (by omega),wr_id ((2:Int)) (by omega) (by omega),wz,hw1,hne',e9,e32]
     all_goals simp [celsD]
    ·simp only [←ei]
     simp -implicitDefEqProofs [em,hlt',cw181,w1,ed,ed0,w2,cw65,w65,e1,e2,wz,hw1,hne,e9,e32,hcs,tT,b1,b2,←ei]
     all_goals simp [celsD]
   ·refine ⟨cells++[⟨97+u,0,P⟩],?_,by simp;omega,by simp;omega,hall.one _ _ okp (width_a _ bu)⟩
    have e97:wr (97+u)=97+u:=wr_id _ (by omega) (by omega)
    have e32:IntKind.i32.wrap (97+u)=97+u:=wrap_i32 _ (by omega) (by omega)
    by_cases hw1:v1.tmod 5=4
    ·have hw2:((i:Int)+1).tmod w=0:=by
      rw [tm]
      have:(i+1) % w=0:=by
       by_cases h:(i+1) % w=0
       ·exact h
       ·exact absurd ⟨hw1,h⟩ hw
      rw [this];rfl
     by_cases hcs:cells=[]
     ·subst hcs
      simp only [List.length_nil] at ei
      subst ei
      have h0n:0<n:=hlt
      have hw2':(1:Int).tmod w=0:=hw2
      have w1':evFun (clOf (modsR tab (k+2)) 3) s181 [.sl 1 (intsD rs),I 0]=some (I v1,[]):=w1
      have w2':evFun (clOf (modsR tab (k+2)) 3) s181 [.sl 1 (intsD ps),I 0]=some (I v2,[]):=w2
      clear w1 w2 ed ed0 e1 e2 hw2
      simp -implicitDefEqProofs [em,h0n,cw181,w1',w2',cw65,w65,wr_id ((0:Int)) (by omega) (by omega),wr_id ((1:Int)) (by omega) (by omega),wr_id ((2:Int)) (by omega) (by omega),wz,hw1,hw2',e97,e32,cr174,cw174,wu]
      all_goals simp [celsD]
     ·simp only [←ei]
      simp -implicitDefEqProofs [em,hlt',cw181,w1,ed,ed0,w2,cw65,w65,e1,e2,wz,hw1,hw2,e97,e32,cr174,cw174,wu,hcs,tT,b1,b2,←ei]
      all_goals simp [celsD]
    ·by_cases hcs:cells=[]
     ·subst hcs
      simp only [List.length_nil] at ei
      subst ei
      have h0n:0<n:=hlt
      have w1':evFun (clOf (modsR tab (k+2)) 3) s181 [.sl 1 (intsD rs),I 0]=some (I v1,[]):=w1
      have w2':evFun (clOf (modsR tab (k+2)) 3) s181 [.sl 1 (intsD ps),I 0]=some (I v2,[]):=w2
      clear w1 w2 ed ed0 e1 e2
      simp -implicitDefEqProofs [em,h0n,cw181,w1',w2',cw65,w65,wr_id ((0:Int)) (by omega) (by omega),wr_id ((1:Int)) (by omega) (by omega),wr_id ((2:Int)) (by omega) (by omega),wz,hw1,e97,e32,cr174,cw174,wu]
      all_goals simp [celsD]
     ·simp only [←ei]
      simp -implicitDefEqProofs [em,hlt',cw181,w1,ed,ed0,w2,cw65,w65,e1,e2,wz,hw1,e97,e32,cr174,cw174,wu,hcs,tT,b1,b2,←ei]
      all_goals simp [celsD]
  ·right
   have hn':cells.length=n:=by omega
   have hcs:cells≠[]:=by intro h;subst h;simp at hn';omega
   refine ⟨.exit 0,_,?_,by simp,rfl,cells,rfl,hn',hall⟩
   have hlt':¬(n:Int)<n:=by omega
   simp -implicitDefEqProofs [em,hn',hlt',hcs]
 ·rintro ex t ⟨rfl,cs,rfl,hc,hall⟩
  refine ⟨⟨h,w,cs⟩,?_,⟨⟨bh.1,by show h≤1000;omega,bw.1,by show w≤1000;omega,by show cs.length=h*w;omega⟩,hall⟩,bh.2,bw.2⟩
  have tT:List.take cs.length cs=cs:=List.take_of_length_le (by omega)
  have tT':List.take n cs=cs:=List.take_of_length_le (by omega)
  simp -implicitDefEqProofs [hc,tT,tT']
end Go.Proofs.YtlpchliomdomdaaGreat.LgTab
namespace Go.Proofs.YtlpchliomdomdaaGreat.LgTab
open Go Lg
set_option linter.unusedVariables false
set_option linter.unusedSimpArgs false
set_option maxRecDepth 8000
def setOk (c:Int):Prop:=c=66∨c=48
structure RightS (s:Sc):Prop where
 g:RightG s.g
 p:PR s.p
 sp:PR s.sv.p
 s0:setOk s.s0
 s1:setOk s.s1
 u0:setOk s.sv.u0
 u1:setOk s.sv.u1
 mar:s.top<s.bot∨(s.g.h=1∧s.top=0∧s.bot=0)
 pend:s.pend=true→s.wrap=true∧s.col=(s.g.w:Int)-1
noncomputable def keepS (g:Gd) (row col top bot r2 c2 kf p1 p2 p3:Int) (tabs:Nat):Sc :=
 {g:=g,row:=row,col:=col,pend:=decide (andI kf 1=0) && decide (col=(g.w:Int)-1) && decide (andI kf 32=32),top:=top,bot:=bot,p:=penM p1 p2 p3,tabs:=tabs,s0:=if andI kf 64=64 then 48 else 66,s1:=66,sh:=if andI kf 128=128 then 1 else 0,wrap:=decide (andI kf 1=0),orig:=decide (andI kf 2=2),shown:=decide (andI kf 4=0),keys:=decide (andI kf 8=8),pad:=decide (andI kf 16=16),sv:=⟨r2,c2,penM kf 0 0,66,48,0,decide (andI kf 256=256)⟩}
theorem keepS_ok {g:Gd} (hg:RightG g) (h5:g.h≤5) (w9:g.w≤9) {row col top bot r2 c2:Int} (kf p1 p2 p3:Int) {tabs:Nat} (ht:tabs<2 ^ 64) (br:0≤row∧row<g.h) (bc:0≤col∧col<g.w) (bt:0≤top∧top≤bot) (bb:bot<g.h) (b2:0≤r2∧r2<g.h) (d2:0≤c2∧c2<g.w) (hm:top<bot∨(g.h=1∧top=0∧bot=0)) :
  OkS (keepS g row col top bot r2 c2 kf p1 p2 p3 tabs)∧RightS (keepS g row col top bot r2 c2 kf p1 p2 p3 tabs):=by
 refine ⟨⟨hg.1,by show g.h≤40;omega,by show g.w≤60;omega,br,bc,bt,bb,ht,?_, .inl rfl,b2,d2⟩,⟨hg,penM_ok _ _ _,penM_ok _ _ _,?_, .inl rfl, .inl rfl, .inr rfl,hm,?_⟩⟩
 ·show (if andI kf 128=128 then (1:Int) else 0)=0∨_
  split
  ·right;rename_i h;simp [keepS,h]
  ·left;rfl
 ·show (if andI kf 64=64 then (48:Int) else 66)=66∨(if andI kf 64=64 then (48:Int) else 66)=48
  split
  ·right;rfl
  ·left;rfl
 ·intro h
  simp only [keepS,Bool.and_eq_true,decide_eq_true_eq] at h
  exact ⟨by simp [keepS,h.1.1],h.1.2⟩
set_option maxHeartbeats 8000000 in
theorem sp66w (k:Nat) (a b:Int) (rs ps:List Int) (kr kc kt kb kf p1 p2 p3:Int) (tabs:Nat) (g:Gd) (h5:g.h≤5) (w9:g.w≤9) (row col top bot r2 c2:Int)
  (w64:evFun (clOf (modsR tab (k+3)) 3) s64 [.agg [I a,I b, .sl 1 (intsD rs), .sl 1 (intsD ps)]]=some (gdD g,[]))
  (wrow:∀ q,evFun (clOf (modsR tab q) 3) s174 [I kr,I 0,I ((g.h:Int)-1)]=some (I row,[]))
  (wcol:∀ q,evFun (clOf (modsR tab q) 3) s174 [I kc,I 0,I ((g.w:Int)-1)]=some (I col,[]))
  (wr2:∀ q,evFun (clOf (modsR tab q) 3) s174 [I kc,I 0,I ((g.h:Int)-1)]=some (I r2,[]))
  (wc2:∀ q,evFun (clOf (modsR tab q) 3) s174 [I kr,I 0,I ((g.w:Int)-1)]=some (I c2,[]))
  (wt:(1:Int)<g.h→0≤top∧top≤5∧(∀ q,evFun (clOf (modsR tab q) 3) s174 [I kt,I 0,I ((g.h:Int)-2)]=some (I top,[]))∧(∀ q,evFun (clOf (modsR tab q) 3) s174 [I kb,I (top+1),I ((g.h:Int)-1)]=some (I bot,[])))
  (w1:¬(1:Int)<g.h→top=0∧bot=(g.h:Int)-1) :
  evFun (clOf (modsR tab (k+4)) 3) s66 [.agg [I a,I b, .sl 1 (intsD rs), .sl 1 (intsD ps),I kr,I kc,I kt,I kb,I kf,I p1,I p2,I p3,T64 tabs]]=some (scD (keepS g row col top bot r2 c2 kf p1 p2 p3 tabs),[]):=by
 have w65:=fun q=>sp65 q p1 p2 p3
 have w65':=fun q=>sp65 q kf 0 0
 unfold keepS
 generalize penM p1 p2 p3=P at *
 generalize penM kf 0 0=P2 at *
 rw [evFun_evB rfl]
 unfold s66
 by_cases h1:(1:Int)<g.h
 ·obtain ⟨t0,t5,wtop,wbot⟩:=wt h1
  by_cases c1:andI kf 1=0
  ·by_cases c2:col=(g.w:Int)-1
   ·by_cases c4:andI kf 64=64<;>by_cases c5:andI kf 128=128<;>simp -implicitDefEqProofs [cw64,w64,cw65,cr65,w65,w65',cw174,cr174,wr_id ((g.h:Int)-1) (by omega) (by omega),wr_id ((g.w:Int)-1) (by omega) (by omega),wrow,wcol,wr2,wc2,h1,c4,c5,wr_id ((g.h:Int)-2) (by omega) (by omega),wr_id (top+1) (by omega) (by omega),wtop,wbot,c1,c2]
   ·by_cases c4:andI kf 64=64<;>by_cases c5:andI kf 128=128<;>simp -implicitDefEqProofs [cw64,w64,cw65,cr65,w65,w65',cw174,cr174,wr_id ((g.h:Int)-1) (by omega) (by omega),wr_id ((g.w:Int)-1) (by omega) (by omega),wrow,wcol,wr2,wc2,h1,c4,c5,wr_id ((g.h:Int)-2) (by omega) (by omega),wr_id (top+1) (by omega) (by omega),wtop,wbot,c1,c2]
  ·by_cases c4:andI kf 64=64<;>by_cases c5:andI kf 128=128<;>simp -implicitDefEqProofs [cw64,w64,cw65,cr65,w65,w65',cw174,cr174,wr_id ((g.h:Int)-1) (by omega) (by omega),wr_id ((g.w:Int)-1) (by omega) (by omega),wrow,wcol,wr2,wc2,h1,c4,c5,wr_id ((g.h:Int)-2) (by omega) (by omega),wr_id (top+1) (by omega) (by omega),wtop,wbot,c1]
 ·obtain ⟨rfl,rfl⟩:=w1 h1
  by_cases c1:andI kf 1=0
  ·by_cases c2:col=(g.w:Int)-1
   ·by_cases c4:andI kf 64=64<;>by_cases c5:andI kf 128=128<;>simp -implicitDefEqProofs [cw64,w64,cw65,cr65,w65,w65',cw174,cr174,wr_id ((g.h:Int)-1) (by omega) (by omega),wr_id ((g.w:Int)-1) (by omega) (by omega),wrow,wcol,wr2,wc2,h1,c4,c5,true_and,c1,c2]
   ·by_cases c4:andI kf 64=64<;>by_cases c5:andI kf 128=128<;>simp -implicitDefEqProofs [cw64,w64,cw65,cr65,w65,w65',cw174,cr174,wr_id ((g.h:Int)-1) (by omega) (by omega),wr_id ((g.w:Int)-1) (by omega) (by omega),wrow,wcol,wr2,wc2,h1,c4,c5,true_and,c1,c2]
  ·by_cases c4:andI kf 64=64<;>by_cases c5:andI kf 128=128<;>simp -implicitDefEqProofs [cw64,w64,cw65,cr65,w65,w65',cw174,cr174,wr_id ((g.h:Int)-1) (by omega) (by omega),wr_id ((g.w:Int)-1) (by omega) (by omega),wrow,wcol,wr2,wc2,h1,c4,c5,true_and,c1]
end Go.Proofs.YtlpchliomdomdaaGreat.LgTab
namespace Go.Proofs.YtlpchliomdomdaaGreat.LgTab
open Go Lg
set_option linter.unusedVariables false
set_option linter.unusedSimpArgs false
set_option maxRecDepth 8000
theorem within_b (n lo hi:Int) (h:lo≤hi):lo≤lo+n % (hi-lo+1)∧lo+n % (hi-lo+1)≤hi:=by
 have:=Int.emod_nonneg n (b:=hi-lo+1) (by omega)
 have:=Int.emod_lt_of_pos n (b:=hi-lo+1) (by omega)
 omega
theorem sp66 (k:Nat) (a b:Int) (rs ps:List Int) (hr:rs.length≤9223372036854775807) (hp:ps.length≤9223372036854775807) (kr kc kt kb kf p1 p2 p3:Int) (tabs:Nat) (ht:tabs<2 ^ 64) :
  ∃ s:Sc,evFun (clOf (modsR tab (k+4)) 3) s66 [.agg [I a,I b, .sl 1 (intsD rs), .sl 1 (intsD ps),I kr,I kc,I kt,I kb,I kf,I p1,I p2,I p3,T64 tabs]]=some (scD s,[])∧OkS s∧RightS s∧s.g.h≤5∧s.g.w≤9:=by
 obtain ⟨g,w64,hg,h5,w9⟩:=sp64 k a b rs ps hr hp
 have h0:=hg.1.1
 have w0:=hg.1.2.2.1
 have b1:=within_b kr 0 ((g.h:Int)-1) (by omega)
 have b2:=within_b kc 0 ((g.w:Int)-1) (by omega)
 have b3:=within_b kc 0 ((g.h:Int)-1) (by omega)
 have b4:=within_b kr 0 ((g.w:Int)-1) (by omega)
 by_cases h1:(1:Int)<g.h
 ·have b5:=within_b kt 0 ((g.h:Int)-2) (by omega)
  obtain ⟨top,et⟩:∃ t,t=0+kt % ((g.h:Int)-2-0+1):=⟨_,rfl⟩
  rw [←et] at b5
  have b6:=within_b kb (top+1) ((g.h:Int)-1) (by omega)
  obtain ⟨bot,eb⟩:∃ t,t=top+1+kb % ((g.h:Int)-1-(top+1)+1):=⟨_,rfl⟩
  rw [←eb] at b6
  exact ⟨_,sp66w k a b rs ps kr kc kt kb kf p1 p2 p3 tabs g h5 w9 _ _ top bot _ _ w64 (fun q=>sp174 q kr 0 _ (by omega) (by omega) (by omega)) (fun q=>sp174 q kc 0 _ (by omega) (by omega) (by omega)) (fun q=>sp174 q kc 0 _ (by omega) (by omega) (by omega)) (fun q=>sp174 q kr 0 _ (by omega) (by omega) (by omega))
   (fun _=>⟨by omega,by omega,fun q=>sp174c q kt 0 _ (by omega) (by omega) (by omega) top et,fun q=>sp174c q kb (top+1) _ (by omega) (by omega) (by omega) bot eb⟩) (fun h=>absurd h1 h),
   (keepS_ok hg h5 w9 kf p1 p2 p3 ht (by omega) (by omega) (by omega) (by omega) (by omega) (by omega) (by omega)).1,(keepS_ok hg h5 w9 kf p1 p2 p3 ht (by omega) (by omega) (by omega) (by omega) (by omega) (by omega) (by omega)).2,h5,w9⟩
 ·exact ⟨_,sp66w k a b rs ps kr kc kt kb kf p1 p2 p3 tabs g h5 w9 _ _ 0 ((g.h:Int)-1) _ _ w64 (fun q=>sp174 q kr 0 _ (by omega) (by omega) (by omega)) (fun q=>sp174 q kc 0 _ (by omega) (by omega) (by omega)) (fun q=>sp174 q kc 0 _ (by omega) (by omega) (by omega)) (fun q=>sp174 q kr 0 _ (by omega) (by omega) (by omega))
   (fun h=>absurd h h1) (fun _=>⟨rfl,rfl⟩),
   (keepS_ok hg h5 w9 kf p1 p2 p3 ht (by omega) (by omega) (by omega) (by omega) (by omega) (by omega) (by omega)).1,(keepS_ok hg h5 w9 kf p1 p2 p3 ht (by omega) (by omega) (by omega) (by omega) (by omega) (by omega) (by omega)).2,h5,w9⟩
end Go.Proofs.YtlpchliomdomdaaGreat.LgTab
namespace Go.Proofs.YtlpchliomdomdaaGreat.LgTab
open Go Lg
set_option linter.unusedVariables false
set_option linter.unusedSimpArgs false
set_option maxRecDepth 8000
theorem lit_get {α:Type} (l:List α) (w:Int) (h:0≤w) (h2:w.toNat<l.length):∃ x,l[w.toNat]? = some x:=⟨l[w.toNat],List.getElem?_eq_getElem h2⟩
end Go.Proofs.YtlpchliomdomdaaGreat.LgTab
namespace Go.Proofs.YtlpchliomdomdaaGreat.LgTab
open Go Lg
set_option linter.unusedVariables false
set_option linter.unusedSimpArgs false
set_option maxRecDepth 8000
structure Kev where
 kd:Int
 rn:Int
 fn:Int
 ps:List Int
 tx:List Int
end Go.Proofs.YtlpchliomdomdaaGreat.LgTab
