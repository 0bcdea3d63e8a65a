import Derived.Test.YtlpchliomdomdaaGreatPt33
namespace Go.Proofs.YtlpchliomdomdaaGreat.LgTab
open Go Lg
set_option linter.unusedVariables false
set_option linter.unusedSimpArgs false
set_option maxRecDepth 8000
theorem w_in {n lo hi:Int}:within n lo hi=true↔lo≤n∧n≤hi:=by unfold within;simp
theorem or_zero {g:Int} (h0:0≤g) (h1:g≤255):orI g 0=g:=by
 obtain ⟨a,rfl⟩:∃ a:Nat,g=a:=⟨g.toNat,by omega⟩
 have:=orI_nat a 0 (by omega) (by omega)
 simpa using this
theorem one_0 (p:Pn):oneM p 0=plainP:=by unfold oneM;rw [if_pos rfl]
theorem one_22 (p:Pn):oneM p 22={p with g:=andnI p.g 3}:=by unfold oneM;rw [if_neg (by omega),if_pos rfl]
theorem one_23 (p:Pn) {n:Int} (h:23≤n∧n≤29):oneM p n={p with g:=andnI p.g (flagM (n-20))}:=by
 unfold oneM
 rw [if_neg (by omega),if_neg (by omega),if_pos (by rw [w_in];omega)]
theorem one_30 (p:Pn) {n:Int} (h:30≤n∧n≤37):oneM p n={p with f:=n-30}:=by
 unfold oneM
 rw [if_neg (by omega),if_neg (by omega),if_neg (by rw [w_in];omega),if_pos (by rw [w_in];omega)]
theorem one_40 (p:Pn) {n:Int} (h:40≤n∧n≤47):oneM p n={p with b:=n-40}:=by
 unfold oneM
 rw [if_neg (by omega),if_neg (by omega),if_neg (by rw [w_in];omega),if_neg (by rw [w_in];omega),if_pos (by rw [w_in];omega)]
theorem one_90 (p:Pn) {n:Int} (h:90≤n∧n≤97):oneM p n={p with f:=n-82}:=by
 unfold oneM
 rw [if_neg (by omega),if_neg (by omega),if_neg (by rw [w_in];omega),if_neg (by rw [w_in];omega),if_neg (by rw [w_in];omega),if_pos (by rw [w_in];omega)]
theorem one_100 (p:Pn) {n:Int} (h:100≤n∧n≤107):oneM p n={p with b:=n-92}:=by
 unfold oneM
 rw [if_neg (by omega),if_neg (by omega),if_neg (by rw [w_in];omega),if_neg (by rw [w_in];omega),if_neg (by rw [w_in];omega),if_neg (by rw [w_in];omega),if_pos (by rw [w_in];omega)]
theorem one_39 (p:Pn):oneM p 39={p with f:= -1}:=by
 unfold oneM
 rw [if_neg (by omega),if_neg (by omega),if_neg (by rw [w_in];omega),if_neg (by rw [w_in];omega),if_neg (by rw [w_in];omega),if_neg (by rw [w_in];omega),if_neg (by rw [w_in];omega),if_pos rfl]
theorem one_49 (p:Pn):oneM p 49={p with b:= -1}:=by
 unfold oneM
 rw [if_neg (by omega),if_neg (by omega),if_neg (by rw [w_in];omega),if_neg (by rw [w_in];omega),if_neg (by rw [w_in];omega),if_neg (by rw [w_in];omega),if_neg (by rw [w_in];omega),if_neg (by omega),if_pos rfl]
theorem one_else (p:Pn) {n:Int} (h0:n≠0) (h1:n≠22) (h2:¬(23≤n∧n≤29)) (h3:¬(30≤n∧n≤37)) (h4:¬(40≤n∧n≤47)) (h5:¬(90≤n∧n≤97)) (h6:¬(100≤n∧n≤107)) (h7:n≠39) (h8:n≠49):oneM p n={p with g:=orI p.g (flagM n)}:=by
 unfold oneM
 rw [if_neg h0,if_neg h1,if_neg (by rw [w_in];omega),if_neg (by rw [w_in];omega),if_neg (by rw [w_in];omega),if_neg (by rw [w_in];omega),if_neg (by rw [w_in];omega),if_neg h7,if_neg h8]
theorem flag_no {n:Int} (h:n<1∨9<n):flagM n=0:=by
 unfold flagM
 rw [if_neg (by omega),if_neg (by omega),if_neg (by omega),if_neg (by omega),if_neg (by omega),if_neg (by omega),if_neg (by omega),if_neg (by omega)]
def flagD:List D:=[I 1,I 2,I 4,I 8,I 16,I 0,I 32,I 64,I 128]
theorem flag_at {j:Nat} (h:j<9):flagD[j]? = some (I (flagM ((j:Int)+1))):=by
 have hc:j=0∨j=1∨j=2∨j=3∨j=4∨j=5∨j=6∨j=7∨j=8:=by omega
 rcases hc with rfl | rfl | rfl | rfl | rfl | rfl | rfl | rfl | rfl<;>rfl
theorem step_at {l:List Int} {i:Nat} {x:Int} (hx:l[i]? = some x) (p:Pn):applyL ((l.map normI).drop i) p=applyL ((l.map normI).drop (i+1+(stepL (normI x) ((l.drop (i+1)).map normI) p).2)) (stepL (normI x) ((l.drop (i+1)).map normI) p).1:=by
 have hi:=(List.getElem?_eq_some_iff.1 hx).1
 have e:(l.map normI).drop i=normI x :: (l.drop (i+1)).map normI:=by
  rw [←List.map_drop,List.drop_eq_getElem_cons hi,List.map_cons]
  rw [List.getElem?_eq_getElem hi] at hx
  injection hx with hx
  rw [hx]
 rw [e,applyL,←List.map_drop,List.drop_drop,←List.map_drop]
theorem step_one {x:Int} (t:List Int) (p:Pn) (h1:x≠38) (h2:x≠48):stepL x t p=(oneM p x,0):=by
 unfold stepL
 rw [if_neg h1,if_neg h2]
def zP:List D:=[I 0,I 0,I 0]
set_option maxHeartbeats 8000000 in
theorem sp281_1 (k:Nat) (p:Pn) (hp:PR p) (l:List Int) (hb:∀ n,n∈l→ -1≤n∧n≤65535) (hl:l.length≤100000) (h0:l≠[]):evFun (clOf (modsR tab (k+2)) 3) s281 [pnD p, .sl 1 (intsD l)]=some (pnD (applyL (l.map normI) p),[]):=by
 have hb0:=hb
 obtain ⟨f,b,g⟩:=p
 rw [evFun_evB rfl]
 unfold s281
 have e0:¬((l.length:Int)=0):=by
  cases l with
  | nil=>exact absurd rfl h0
  | cons a t=>simp;omega
 simp -implicitDefEqProofs [e0,h0,intsD]
 refine evB_run (σ:=Nat×Pn) (fun s=>[.sl 1 (intsD l), .sl 1 flagD,I s.1, .obx [I s.2.f,I s.2.b,I s.2.g], .obx zP]) (fun s=>l.length-s.1)
  (fun s=>(.exit 0,[.sl 1 (intsD l), .sl 1 flagD,I l.length, .obx [I (applyL ((l.map normI).drop s.1) s.2).f,I (applyL ((l.map normI).drop s.1) s.2).b,I (applyL ((l.map normI).drop s.1) s.2).g], .obx zP])) (fun s=>s.1≤l.length∧PR s.2) (0,⟨f,b,g⟩) ?_ ⟨by simp,hp⟩ (by simp [rounds];omega) ?_ ?_
 ·simp -implicitDefEqProofs [flagD,zP,intsD]
 ·rintro ⟨i,p⟩ ⟨hi,hpr⟩
  simp only at hi hpr
  by_cases hlt:i<l.length
  case neg =>
   right
   have hie:i=l.length:=by omega
   subst hie
   have ed:(l.map normI).drop l.length=[]:=by rw [List.drop_eq_nil_iff];simp
   simp only [ed,applyL]
   simp -implicitDefEqProofs [flagD,zP,intsD]
  left
  obtain ⟨x,hx⟩:=get_ex hlt
  have hxb:=hb x (List.mem_of_getElem? hx)
  have hlt':(i:Int)<l.length:=by omega
  have ax:=intsD_at hx
  have st:=step_at hx p
  have enx:=norm_mx hxb.1
  have hl9:flagD.length=9:=rfl
  have fa:∀ {q:Nat},q<9→flagD[q]? = some (I (flagM ((q:Int)+1))):=fun h=>flag_at h
  generalize flagD=FD at *
  have hpo:=step_ok (normI x) ((l.drop (i+1)).map normI) hpr
  rw [enx] at st hpo
  have hmx:=mx0 x
  obtain ⟨n,hn⟩:∃ n,mxI x 0=n:=⟨_,rfl⟩
  have hnb:n≤65535:=by
   rw [←hn];unfold mxI;split<;>omega
  rw [hn] at st hpo hmx
  obtain ⟨f,b,g⟩:=p
  have hg0:=hpr.2.2.1
  have hg1:=hpr.2.2.2
  simp only at hg0 hg1
  have ei:wr ((i:Int)+1)=(i:Int)+1:=wr_id _ (by omega) (by omega)
  clear hp hb h0 e0 hx hxb enx
  by_cases cs:n=0
  ·subst cs
   have es:stepL 0 ((l.drop (i+1)).map normI) ⟨f,b,g⟩=(plainP,0):=by rw [step_one _ _ (by omega) (by omega),one_0]
   rw [es] at st hpo
   simp only at st hpo
   refine ⟨(i+1,plainP),?_,by show l.length-(i+1)<l.length-i;omega,by simp only [st];try rfl,⟨by show i+1≤l.length;omega,hpo⟩⟩
   simp -implicitDefEqProofs [zP,hlt',hlt,ax,hn,ei,cw290,cr290,sp290,plainP]
  by_cases cs:1≤n∧n≤9
  ·have le9:n≤9:=by omega
   have a23:¬23≤n:=by omega
   have b29:n≤29:=by omega
   have a30:¬30≤n:=by omega
   have b37:n≤37:=by omega
   have a40:¬40≤n:=by omega
   have b47:n≤47:=by omega
   have a90:¬90≤n:=by omega
   have b97:n≤97:=by omega
   have a100:¬100≤n:=by omega
   have b107:n≤107:=by omega
   have q0:¬n=0:=by omega
   have q22:¬n=22:=by omega
   have q39:¬n=39:=by omega
   have q49:¬n=49:=by omega
   have q38:¬n=38:=by omega
   have q48:¬n=48:=by omega
   have es:stepL n ((l.drop (i+1)).map normI) ⟨f,b,g⟩=(⟨f,b,orI g (flagM n)⟩,0):=by rw [step_one _ _ (by omega) (by omega),one_else _ (by omega) (by omega) (by omega) (by omega) (by omega) (by omega) (by omega) (by omega) (by omega)]
   rw [es] at st hpo
   simp only at st hpo
   obtain ⟨q,hq⟩:∃ q:Nat,n=(q:Int)+1:=⟨(n-1).toNat,by omega⟩
   have q9:q<9:=by omega
   have aq:=fa q9
   rw [←hq] at aq
   have eq1:wr (n-1)=(q:Int):=by rw [wr_id _ (by omega) (by omega)];omega
   generalize flagM n=F at *
   refine ⟨(i+1,⟨f,b,orI g F⟩),?_,by show l.length-(i+1)<l.length-i;omega,by simp only [st];try rfl,⟨by show i+1≤l.length;omega,hpo⟩⟩
   simp -implicitDefEqProofs [zP,hlt',hlt,ax,hn,ei,le9,a23,b29,a30,b37,a40,b47,a90,b97,a100,b107,q0,q22,q39,q49,q38,q48,eq1,aq,get_of aq,q9,hl9]
  by_cases cs:10≤n∧n≤21
  ·have le9:¬n≤9:=by omega
   have a23:¬23≤n:=by omega
   have b29:n≤29:=by omega
   have a30:¬30≤n:=by omega
   have b37:n≤37:=by omega
   have a40:¬40≤n:=by omega
   have b47:n≤47:=by omega
   have a90:¬90≤n:=by omega
   have b97:n≤97:=by omega
   have a100:¬100≤n:=by omega
   have b107:n≤107:=by omega
   have q0:¬n=0:=by omega
   have q22:¬n=22:=by omega
   have q39:¬n=39:=by omega
   have q49:¬n=49:=by omega
   have q38:¬n=38:=by omega
   have q48:¬n=48:=by omega
   have es:stepL n ((l.drop (i+1)).map normI) ⟨f,b,g⟩=(⟨f,b,g⟩,0):=by rw [step_one _ _ (by omega) (by omega),one_else _ (by omega) (by omega) (by omega) (by omega) (by omega) (by omega) (by omega) (by omega) (by omega)];simp only [flag_no (n:=n) (by omega),or_zero hg0 hg1]
   rw [es] at st hpo
   simp only at st hpo
   refine ⟨(i+1,⟨f,b,g⟩),?_,by show l.length-(i+1)<l.length-i;omega,by simp only [st];try rfl,⟨by show i+1≤l.length;omega,hpo⟩⟩
   simp -implicitDefEqProofs [zP,hlt',hlt,ax,hn,ei,le9,a23,b29,a30,b37,a40,b47,a90,b97,a100,b107,q0,q22,q39,q49,q38,q48]
  by_cases cs:n=22
  ·subst cs
   have es:stepL 22 ((l.drop (i+1)).map normI) ⟨f,b,g⟩=(⟨f,b,andnI g 3⟩,0):=by rw [step_one _ _ (by omega) (by omega),one_22]
   rw [es] at st hpo
   simp only at st hpo
   refine ⟨(i+1,⟨f,b,andnI g 3⟩),?_,by show l.length-(i+1)<l.length-i;omega,by simp only [st];try rfl,⟨by show i+1≤l.length;omega,hpo⟩⟩
   simp -implicitDefEqProofs [zP,hlt',hlt,ax,hn,ei]
  by_cases cs:23≤n∧n≤29
  ·have le9:¬n≤9:=by omega
   have a23:23≤n:=by omega
   have b29:n≤29:=by omega
   have a30:¬30≤n:=by omega
   have b37:n≤37:=by omega
   have a40:¬40≤n:=by omega
   have b47:n≤47:=by omega
   have a90:¬90≤n:=by omega
   have b97:n≤97:=by omega
   have a100:¬100≤n:=by omega
   have b107:n≤107:=by omega
   have q0:¬n=0:=by omega
   have q22:¬n=22:=by omega
   have q39:¬n=39:=by omega
   have q49:¬n=49:=by omega
   have q38:¬n=38:=by omega
   have q48:¬n=48:=by omega
   have es:stepL n ((l.drop (i+1)).map normI) ⟨f,b,g⟩=(⟨f,b,andnI g (flagM (n-20))⟩,0):=by rw [step_one _ _ (by omega) (by omega),one_23 _ (by omega)]
   rw [es] at st hpo
   simp only at st hpo
   obtain ⟨q,hq⟩:∃ q:Nat,n=(q:Int)+21:=⟨(n-21).toNat,by omega⟩
   have q9:q<9:=by omega
   have aq:=fa q9
   have eq2:(q:Int)+1=n-20:=by omega
   rw [eq2] at aq
   have eq1:wr (n-21)=(q:Int):=by rw [wr_id _ (by omega) (by omega)];omega
   generalize flagM (n-20)=F at *
   refine ⟨(i+1,⟨f,b,andnI g F⟩),?_,by show l.length-(i+1)<l.length-i;omega,by simp only [st];try rfl,⟨by show i+1≤l.length;omega,hpo⟩⟩
   simp -implicitDefEqProofs [zP,hlt',hlt,ax,hn,ei,le9,a23,b29,a30,b37,a40,b47,a90,b97,a100,b107,q0,q22,q39,q49,q38,q48,eq1,aq,get_of aq,q9,hl9]
  by_cases cs:30≤n∧n≤37
  ·have le9:¬n≤9:=by omega
   have a23:23≤n:=by omega
   have b29:¬n≤29:=by omega
   have a30:30≤n:=by omega
   have b37:n≤37:=by omega
   have a40:¬40≤n:=by omega
   have b47:n≤47:=by omega
   have a90:¬90≤n:=by omega
   have b97:n≤97:=by omega
   have a100:¬100≤n:=by omega
   have b107:n≤107:=by omega
   have q0:¬n=0:=by omega
   have q22:¬n=22:=by omega
   have q39:¬n=39:=by omega
   have q49:¬n=49:=by omega
   have q38:¬n=38:=by omega
   have q48:¬n=48:=by omega
   have es:stepL n ((l.drop (i+1)).map normI) ⟨f,b,g⟩=(⟨n-30,b,g⟩,0):=by rw [step_one _ _ (by omega) (by omega),one_30 _ (by omega)]
   rw [es] at st hpo
   simp only at st hpo
   have e30:wr (n-30)=n-30:=wr_id _ (by omega) (by omega)
   refine ⟨(i+1,⟨n-30,b,g⟩),?_,by show l.length-(i+1)<l.length-i;omega,by simp only [st];try rfl,⟨by show i+1≤l.length;omega,hpo⟩⟩
   simp -implicitDefEqProofs [zP,hlt',hlt,ax,hn,ei,le9,a23,b29,a30,b37,a40,b47,a90,b97,a100,b107,q0,q22,q39,q49,q38,q48,e30]
  by_cases cs:n=39
  ·subst cs
   have es:stepL 39 ((l.drop (i+1)).map normI) ⟨f,b,g⟩=(⟨-1,b,g⟩,0):=by rw [step_one _ _ (by omega) (by omega),one_39]
   rw [es] at st hpo
   simp only at st hpo
   refine ⟨(i+1,⟨-1,b,g⟩),?_,by show l.length-(i+1)<l.length-i;omega,by simp only [st];try rfl,⟨by show i+1≤l.length;omega,hpo⟩⟩
   simp -implicitDefEqProofs [zP,hlt',hlt,ax,hn,ei]
  by_cases cs:40≤n∧n≤47
  ·have le9:¬n≤9:=by omega
   have a23:23≤n:=by omega
   have b29:¬n≤29:=by omega
   have a30:30≤n:=by omega
   have b37:¬n≤37:=by omega
   have a40:40≤n:=by omega
   have b47:n≤47:=by omega
   have a90:¬90≤n:=by omega
   have b97:n≤97:=by omega
   have a100:¬100≤n:=by omega
   have b107:n≤107:=by omega
   have q0:¬n=0:=by omega
   have q22:¬n=22:=by omega
   have q39:¬n=39:=by omega
   have q49:¬n=49:=by omega
   have q38:¬n=38:=by omega
   have q48:¬n=48:=by omega
   have es:stepL n ((l.drop (i+1)).map normI) ⟨f,b,g⟩=(⟨f,n-40,g⟩,0):=by rw [step_one _ _ (by omega) (by omega),one_40 _ (by omega)]
   rw [es] at st hpo
   simp only at st hpo
   have e40:wr (n-40)=n-40:=wr_id _ (by omega) (by omega)
   refine ⟨(i+1,⟨f,n-40,g⟩),?_,by show l.length-(i+1)<l.length-i;omega,by simp only [st];try rfl,⟨by show i+1≤l.length;omega,hpo⟩⟩
   simp -implicitDefEqProofs [zP,hlt',hlt,ax,hn,ei,le9,a23,b29,a30,b37,a40,b47,a90,b97,a100,b107,q0,q22,q39,q49,q38,q48,e40]
  by_cases cs:n=49
  ·subst cs
   have es:stepL 49 ((l.drop (i+1)).map normI) ⟨f,b,g⟩=(⟨f,-1,g⟩,0):=by rw [step_one _ _ (by omega) (by omega),one_49]
   rw [es] at st hpo
   simp only at st hpo
   refine ⟨(i+1,⟨f,-1,g⟩),?_,by show l.length-(i+1)<l.length-i;omega,by simp only [st];try rfl,⟨by show i+1≤l.length;omega,hpo⟩⟩
   simp -implicitDefEqProofs [zP,hlt',hlt,ax,hn,ei]
  by_cases cs:50≤n∧n≤89
  ·have le9:¬n≤9:=by omega
   have a23:23≤n:=by omega
   have b29:¬n≤29:=by omega
   have a30:30≤n:=by omega
   have b37:¬n≤37:=by omega
   have a40:40≤n:=by omega
   have b47:¬n≤47:=by omega
   have a90:¬90≤n:=by omega
   have b97:n≤97:=by omega
   have a100:¬100≤n:=by omega
   have b107:n≤107:=by omega
   have q0:¬n=0:=by omega
   have q22:¬n=22:=by omega
   have q39:¬n=39:=by omega
   have q49:¬n=49:=by omega
   have q38:¬n=38:=by omega
   have q48:¬n=48:=by omega
   have es:stepL n ((l.drop (i+1)).map normI) ⟨f,b,g⟩=(⟨f,b,g⟩,0):=by rw [step_one _ _ (by omega) (by omega),one_else _ (by omega) (by omega) (by omega) (by omega) (by omega) (by omega) (by omega) (by omega) (by omega)];simp only [flag_no (n:=n) (by omega),or_zero hg0 hg1]
   rw [es] at st hpo
   simp only at st hpo
   refine ⟨(i+1,⟨f,b,g⟩),?_,by show l.length-(i+1)<l.length-i;omega,by simp only [st];try rfl,⟨by show i+1≤l.length;omega,hpo⟩⟩
   simp -implicitDefEqProofs [zP,hlt',hlt,ax,hn,ei,le9,a23,b29,a30,b37,a40,b47,a90,b97,a100,b107,q0,q22,q39,q49,q38,q48]
  by_cases cs:90≤n∧n≤97
  ·have le9:¬n≤9:=by omega
   have a23:23≤n:=by omega
   have b29:¬n≤29:=by omega
   have a30:30≤n:=by omega
   have b37:¬n≤37:=by omega
   have a40:40≤n:=by omega
   have b47:¬n≤47:=by omega
   have a90:90≤n:=by omega
   have b97:n≤97:=by omega
   have a100:¬100≤n:=by omega
   have b107:n≤107:=by omega
   have q0:¬n=0:=by omega
   have q22:¬n=22:=by omega
   have q39:¬n=39:=by omega
   have q49:¬n=49:=by omega
   have q38:¬n=38:=by omega
   have q48:¬n=48:=by omega
   have es:stepL n ((l.drop (i+1)).map normI) ⟨f,b,g⟩=(⟨n-82,b,g⟩,0):=by rw [step_one _ _ (by omega) (by omega),one_90 _ (by omega)]
   rw [es] at st hpo
   simp only at st hpo
   have e82:wr (n-82)=n-82:=wr_id _ (by omega) (by omega)
   refine ⟨(i+1,⟨n-82,b,g⟩),?_,by show l.length-(i+1)<l.length-i;omega,by simp only [st];try rfl,⟨by show i+1≤l.length;omega,hpo⟩⟩
   simp -implicitDefEqProofs [zP,hlt',hlt,ax,hn,ei,le9,a23,b29,a30,b37,a40,b47,a90,b97,a100,b107,q0,q22,q39,q49,q38,q48,e82]
  by_cases cs:98≤n∧n≤99
  ·have le9:¬n≤9:=by omega
   have a23:23≤n:=by omega
   have b29:¬n≤29:=by omega
   have a30:30≤n:=by omega
   have b37:¬n≤37:=by omega
   have a40:40≤n:=by omega
   have b47:¬n≤47:=by omega
   have a90:90≤n:=by omega
   have b97:¬n≤97:=by omega
   have a100:¬100≤n:=by omega
   have b107:n≤107:=by omega
   have q0:¬n=0:=by omega
   have q22:¬n=22:=by omega
   have q39:¬n=39:=by omega
   have q49:¬n=49:=by omega
   have q38:¬n=38:=by omega
   have q48:¬n=48:=by omega
   have es:stepL n ((l.drop (i+1)).map normI) ⟨f,b,g⟩=(⟨f,b,g⟩,0):=by rw [step_one _ _ (by omega) (by omega),one_else _ (by omega) (by omega) (by omega) (by omega) (by omega) (by omega) (by omega) (by omega) (by omega)];simp only [flag_no (n:=n) (by omega),or_zero hg0 hg1]
   rw [es] at st hpo
   simp only at st hpo
   refine ⟨(i+1,⟨f,b,g⟩),?_,by show l.length-(i+1)<l.length-i;omega,by simp only [st];try rfl,⟨by show i+1≤l.length;omega,hpo⟩⟩
   simp -implicitDefEqProofs [zP,hlt',hlt,ax,hn,ei,le9,a23,b29,a30,b37,a40,b47,a90,b97,a100,b107,q0,q22,q39,q49,q38,q48]
  by_cases cs:100≤n∧n≤107
  ·have le9:¬n≤9:=by omega
   have a23:23≤n:=by omega
   have b29:¬n≤29:=by omega
   have a30:30≤n:=by omega
   have b37:¬n≤37:=by omega
   have a40:40≤n:=by omega
   have b47:¬n≤47:=by omega
   have a90:90≤n:=by omega
   have b97:¬n≤97:=by omega
   have a100:100≤n:=by omega
   have b107:n≤107:=by omega
   have q0:¬n=0:=by omega
   have q22:¬n=22:=by omega
   have q39:¬n=39:=by omega
   have q49:¬n=49:=by omega
   have q38:¬n=38:=by omega
   have q48:¬n=48:=by omega
   have es:stepL n ((l.drop (i+1)).map normI) ⟨f,b,g⟩=(⟨f,n-92,g⟩,0):=by rw [step_one _ _ (by omega) (by omega),one_100 _ (by omega)]
   rw [es] at st hpo
   simp only at st hpo
   have e92:wr (n-92)=n-92:=wr_id _ (by omega) (by omega)
   refine ⟨(i+1,⟨f,n-92,g⟩),?_,by show l.length-(i+1)<l.length-i;omega,by simp only [st];try rfl,⟨by show i+1≤l.length;omega,hpo⟩⟩
   simp -implicitDefEqProofs [zP,hlt',hlt,ax,hn,ei,le9,a23,b29,a30,b37,a40,b47,a90,b97,a100,b107,q0,q22,q39,q49,q38,q48,e92]
  by_cases cs:108≤n
  ·have le9:¬n≤9:=by omega
   have a23:23≤n:=by omega
   have b29:¬n≤29:=by omega
   have a30:30≤n:=by omega
   have b37:¬n≤37:=by omega
   have a40:40≤n:=by omega
   have b47:¬n≤47:=by omega
   have a90:90≤n:=by omega
   have b97:¬n≤97:=by omega
   have a100:100≤n:=by omega
   have b107:¬n≤107:=by omega
   have q0:¬n=0:=by omega
   have q22:¬n=22:=by omega
   have q39:¬n=39:=by omega
   have q49:¬n=49:=by omega
   have q38:¬n=38:=by omega
   have q48:¬n=48:=by omega
   have es:stepL n ((l.drop (i+1)).map normI) ⟨f,b,g⟩=(⟨f,b,g⟩,0):=by rw [step_one _ _ (by omega) (by omega),one_else _ (by omega) (by omega) (by omega) (by omega) (by omega) (by omega) (by omega) (by omega) (by omega)];simp only [flag_no (n:=n) (by omega),or_zero hg0 hg1]
   rw [es] at st hpo
   simp only at st hpo
   refine ⟨(i+1,⟨f,b,g⟩),?_,by show l.length-(i+1)<l.length-i;omega,by simp only [st];try rfl,⟨by show i+1≤l.length;omega,hpo⟩⟩
   simp -implicitDefEqProofs [zP,hlt',hlt,ax,hn,ei,le9,a23,b29,a30,b37,a40,b47,a90,b97,a100,b107,q0,q22,q39,q49,q38,q48]
  have hw:=fun q=>sp316 q (l.drop (i+1))
  have hln:(l.drop (i+1)).length=l.length-(i+1):=by simp
  have hwn:=extM_le ((l.drop (i+1)).map normI) 0
  have hex:=fun old=>ext_wid (l.drop (i+1)) old (fun n hn=>(hb0 n (List.mem_of_mem_drop hn)).1)
  rw [(hex 0).2,List.length_map,hln] at hwn
  generalize hwid:widM (l.drop (i+1))=W at *
  obtain ⟨wc,wn⟩:=W
  simp only at hw hwn hex
  obtain ⟨m,rfl⟩:∃ m:Nat,wn=m:=⟨wn.toNat,by omega⟩
  have em:wr ((i:Int)+m)=(i:Int)+m:=wr_id _ (by omega) (by omega)
  have em1:wr ((i:Int)+1+m)=(i:Int)+1+m:=wr_id _ (by omega) (by omega)
  have em2:(i:Int)+m+1=(i:Int)+1+m:=by omega
  have tk:List.take (l.length-(i+1)) (List.drop (i+1) l)=List.drop (i+1) l:=List.take_of_length_le (by simp)
  have i0':(0:Int)≤(i:Int)+1:=by omega
  have i1:i+1≤l.length:=by omega
  have i1':(i:Int)+1≤l.length:=by omega
  by_cases cs:n=38
  ·subst cs
   have es:stepL 38 ((l.drop (i+1)).map normI) ⟨f,b,g⟩=(⟨if wc = -2 then f else wc,b,g⟩,m):=by
    unfold stepL
    rw [if_pos rfl,(hex f).1,(hex f).2]
    simp
   rw [es] at st hpo
   simp only at st hpo
   clear es
   refine ⟨(i+1+m,⟨if wc = -2 then f else wc,b,g⟩),?_,by show l.length-(i+1+m)<l.length-i;omega,by simp only [st],⟨by show i+1+m≤l.length;omega,hpo⟩⟩
   by_cases c2:wc = -2
   ·simp -implicitDefEqProofs [zP,hlt',hlt,ax,hn,ei,cw316,cr316,hw,tk,i0',i1,i1',em,em1,em2,c2]
   ·simp -implicitDefEqProofs [zP,hlt',hlt,ax,hn,ei,cw316,cr316,hw,tk,i0',i1,i1',em,em1,em2,c2]
  by_cases cs:n=48
  ·subst cs
   have es:stepL 48 ((l.drop (i+1)).map normI) ⟨f,b,g⟩=(⟨f,if wc = -2 then b else wc,g⟩,m):=by
    unfold stepL
    rw [if_neg (by omega),if_pos rfl,(hex b).1,(hex b).2]
    simp
   rw [es] at st hpo
   simp only at st hpo
   clear es
   refine ⟨(i+1+m,⟨f,if wc = -2 then b else wc,g⟩),?_,by show l.length-(i+1+m)<l.length-i;omega,by simp only [st],⟨by show i+1+m≤l.length;omega,hpo⟩⟩
   by_cases c2:wc = -2
   ·simp -implicitDefEqProofs [zP,hlt',hlt,ax,hn,ei,cw316,cr316,hw,tk,i0',i1,i1',em,em1,em2,c2]
   ·simp -implicitDefEqProofs [zP,hlt',hlt,ax,hn,ei,cw316,cr316,hw,tk,i0',i1,i1',em,em1,em2,c2]
  omega
 ·simp -implicitDefEqProofs [flagD,zP,intsD]
theorem sp281 (k:Nat) (p:Pn) (hp:PR p) (o:Option (List Int)) (hb:∀ n,n∈o.getD []→ -1≤n∧n≤65535) (hl:(o.getD []).length≤100000):evFun (clOf (modsR tab (k+2)) 3) s281 [pnD p,parD o]=some (pnD (applyM p (o.getD [])),[]):=by
 cases o with
 | none =>
  rw [evFun_evB rfl]
  unfold s281 applyM
  simp -implicitDefEqProofs [parD,cw290,cr290,sp290,plainP]
 | some l =>
  unfold applyM
  split
  ·rename_i h
   simp only [Option.getD] at h
   subst h
   rw [evFun_evB rfl]
   unfold s281
   simp -implicitDefEqProofs [parD,intsD,cw290,cr290,sp290,plainP]
  ·rename_i h
   exact sp281_1 k p hp l hb hl h
end Go.Proofs.YtlpchliomdomdaaGreat.LgTab
