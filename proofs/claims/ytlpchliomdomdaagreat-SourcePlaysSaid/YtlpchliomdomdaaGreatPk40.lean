import Derived.Test.YtlpchliomdomdaaGreatPk38
import Derived.Test.YtlpchliomdomdaaGreatPk22
namespace Go.Proofs.YtlpchliomdomdaaGreat.LgTab
open Go Lg
set_option linter.unusedVariables false
set_option linter.unusedSimpArgs false
set_option maxRecDepth 8000
theorem allS_right {s:Sc} (o:OkS s) (r:RightS s) (l:List Ev):RightS (allS s l):=by
 induction l generalizing s with
 | nil=>exact r
 | cons e l ih=>exact ih (doS_ok o e) (doS_right o r e)
theorem allN_right {s:Sc} (o:OkS s) (r:RightS s) (l:List Ev) (i:Nat):RightS (allN s l i):=allS_right o r _
set_option maxHeartbeats 8000000 in
theorem sp191 (k:Nat) (a b:Int) (l:List Kev) (htx:∀ x,x∈l→∀ c,c∈x.tx→0≤c∧c≤255) :
  evFun (clOf (modsR tab (k+12)) 3) s191 [I a,I b, .sl 5 (kevsD l)]=some (B true,[]):=by
 obtain ⟨es,el,w63⟩:=kevs_exr (k+10) l htx
 obtain ⟨h0,hh⟩:∃ q,q=1+a % (5-1+1):=⟨_,rfl⟩
 have wh:=fun q=>sp174c q a 1 5 (by omega) (by omega) (by omega) h0 hh
 have bh:1≤h0∧h0≤5:=by omega
 clear hh
 obtain ⟨w0,hw⟩:∃ q,q=1+b % (9-1+1):=⟨_,rfl⟩
 have ww:=fun q=>sp174c q b 1 9 (by omega) (by omega) (by omega) w0 hw
 have bw:1≤w0∧w0≤9:=by omega
 clear hw
 obtain ⟨h,rfl⟩:∃ h:Nat,h0=h:=⟨h0.toNat,by omega⟩
 obtain ⟨w,rfl⟩:∃ w:Nat,w0=w:=⟨w0.toNat,by omega⟩
 have w372:=fun q=>sp372 q h w (by omega) (by omega)
 have w286:=fun q=>sp286 q h w (by omega) (by omega)
 have on:=newS_ok h w (by omega) (by omega)
 have rn:=newS_right h w (by omega) (by omega)
 generalize newS h w=n at *
 have hlen:=kevsD_len l
 obtain ⟨N,hN⟩:∃ N,N=min l.length 40:=⟨_,rfl⟩
 have n0:=allN_0 n es
 have e0:evsD []=[]:=rfl
 obtain ⟨zs,hz⟩:∃ zs,zs=es.take N:=⟨_,rfl⟩
 have lz:zs.length=N:=by rw [hz,List.length_take];omega
 have hzN:∀ i,i≤N→allN n zs i=allN n es i:=by
  intro i hi
  unfold allN
  rw [hz,List.take_take,Nat.min_eq_left hi]
 have hpz:∀ e,e∈zs→e.par.length≤100000:=by
  intro e he
  obtain ⟨i,hi⟩:=List.getElem?_of_mem he
  have hiN:i<N:=by rw [←lz];exact (List.getElem?_eq_some_iff.1 hi).1
  obtain ⟨x,hx⟩:=get_ex (l:=l) (i:=i) (by omega)
  obtain ⟨e2,he2,_,_,hb5,_⟩:=w63 i x hx
  rw [hz,List.getElem?_take_of_lt hiN,he2] at hi
  injection hi with hi
  rw [←hi]
  omega
 have w399:=fun q=>sp399 q n on zs (by omega) hpz
 have hS:allS n zs=allN n es N:=by rw [←allN_all,lz];exact hzN N (Nat.le_refl _)
 rw [hS] at w399
 have oN:=allN_ok on es N
 have rN:=allN_right on rn es N
 have w374:=fun q=>sp374 q (allN n es N) (by have:=oN.len;omega)
 have w373:=fun q=>sp373 q (allN n es N) oN rN
 have w193:=fun q=>sp193 q
 rw [evFun_evB rfl]
 unfold s191
 simp -implicitDefEqProofs [cw174,cr174,wh,ww,cw372,cr372,w372,cw286,cr286,w286]
 refine evB_for (fun i=>[.sl 5 (kevsD l),B false,I h,I w,I i, .obx (scL (allN n es i)), .obx (scL (allN n es i)), .osl true 7 (evsD (es.take i))]) N (.exit 0) [.sl 5 (kevsD l),B false,I h,I w,I N, .obx (scL (allN n es N)), .obx (scL (allN n es N)), .osl true 7 (evsD (es.take N))] ?_ (fun i hi=>?_) ?_ (by simp) (by simp [rounds];omega) ?_
 ·simp -implicitDefEqProofs [n0,e0]
 ·have i1:i<l.length:=by omega
  have i2:(i:Int)<40:=by omega
  have i3:(i:Int)<l.length:=by omega
  obtain ⟨x,hx⟩:=get_ex i1
  obtain ⟨e,he,wx,hb,he5,her⟩:=w63 i x hx
  have hs:=allN_snoc n he
  have oi:=allN_ok on es i
  have ri:=allN_right on rn es i
  have oj:=allN_ok on es (i+1)
  have v:=fun q=>sp400 q _ oi e (by omega)
  have v2:=fun q=>sp284 q _ oi ri e (by omega) (fun n hn=>by have:=hb n hn;omega) (by omega)
  have v3:=fun q=>sp177 q (allN n es (i+1)) (by have:=oj.len;omega)
  have hg:=kevsD_at hx
  have et:evsD (es.take (i+1))=evsD (es.take i)++[evD e]:=by rw [take_snoc he];simp [evsD]
  have lt:(evsD (es.take i)).length=i:=by rw [evsD_len,List.length_take];omega
  have tt:(evsD (es.take i)).take i=evsD (es.take i):=List.take_of_length_le (by omega)
  have b1:i≤2513169434915:=by omega
  have b2:(i+1)*56≤140737488355328:=by omega
  have b3:i+1≤2513169434916:=by omega
  rw [←hs] at v v2
  rw [et]
  have r1:=isROs_I x.ps
  have r2:=isROs_U x.tx
  clear w63 w399 w374 w373 w372 w286 oN rN hS hzN hpz oi ri oj hs
  generalize allN n es (i+1)=S' at *
  generalize allN n es i=S2 at *
  generalize evsD (es.take i)=E1 at *
  generalize kevsD l=L at *
  simp -implicitDefEqProofs [i1,i2,i3,hg,hlen,cw63,cr63,wx,r1,r2,lt,tt,b1,b2,b3,cw400,cr400,v,cw284,cr284,v2,cw177,cr177,v3,wr_id ((i:Int)+1) (by omega) (by omega)]
 ·clear w63 w399 w374 w373
  generalize allN n es N=S' at *
  generalize evsD (es.take N)=E1 at *
  generalize kevsD l=L at *
  by_cases h1:(N:Int)<l.length
  ·have h2:¬(N:Int)<40:=by omega
   have h1n:N<l.length:=by omega
   simp -implicitDefEqProofs [hlen,h1,h1n,h2]
  ·have h1n:¬N<l.length:=by omega
   simp -implicitDefEqProofs [hlen,h1,h1n]
 ·clear w63
  rw [←hz]
  generalize allN n es N=S' at *
  generalize evsD zs=E1 at *
  simp -implicitDefEqProofs [cw372,cr372,w372,cw399,cr399,w399,cw374,cr374,w374,cw373,cr373,w373,cw193,cr193,w193]
end Go.Proofs.YtlpchliomdomdaaGreat.LgTab
