import Derived.Test.YtlpchliomdomdaaGreatPt31
import Derived.Test.YtlpchliomdomdaaGreatPt32
namespace Go.Proofs.YtlpchliomdomdaaGreat.LgTab
open Go Lg
set_option linter.unusedVariables false
set_option linter.unusedSimpArgs false
set_option maxRecDepth 8000
theorem sp291 (k:Nat) (s:Sc) (o:OkS s) (r:RightS s) (x:Int) (hxb : -2147483648≤x∧x≤2147483647):evFun (clOf (modsR tab (k+4)) 3) s291 [scD s,R x]=some (scD (printS s x),[]):=by
 have hs:s.sh=0∨s.sh=1:=o.sh
 have key:∀ T:Int,T=setOf s→(T≠48→drawnI s x=x)∧(T=48→(x<95∨126<x)→drawnI s x=x)∧(T=48→x=95→drawnI s x=32)∧(T=48→∀ i:Nat,i<31→x=96+(i:Int)→drawL[i]? = some (drawnI s x)):=by
  intro T hT
  subst hT
  refine ⟨fun h=>?_,fun h h2=>?_,fun h h2=>?_,fun h i hi h2=>?_⟩
  ·unfold drawnI;rw [if_neg (fun hh=>h hh.1)]
  ·unfold drawnI;rw [if_neg (by omega)]
  ·unfold drawnI;rw [if_pos (by omega)];unfold drawI;rw [if_pos h2]
  ·unfold drawnI;rw [if_pos (by omega)];unfold drawI;rw [if_neg (by omega),if_pos (by omega)]
   obtain ⟨a,ha⟩:=drawL_get i hi
   have e:(x-96).toNat=i:=by omega
   rw [e,ha,List.getD_eq_getElem?_getD,ha]
   rfl
 have bd:∀ i:Nat,∀ y,drawL[i]? = some y→ -2147483648≤y∧y≤2147483647:=by
  intro i y h
  have hm:=List.mem_of_getElem? h
  have hall:∀ z,z∈drawL→ -2147483648≤z∧z≤2147483647:=by decide
  exact hall y hm
 rcases hs with h | h
 ·have hT:s.s0=setOf s:=by unfold setOf;rw [if_pos h]
  obtain ⟨k1,k2,k3,k4⟩:=key _ hT
  by_cases h1:s.s0=48
  ·by_cases h2:x<95
   ·exact sp291D0 k s o r x x hxb (k2 h1 (.inl h2)).symm hxb h h1 h2 rfl
   by_cases h3:126<x
   ·exact sp291E0 k s o r x x hxb (k2 h1 (.inr h3)).symm hxb h h1 h3 rfl
   by_cases h4:x=95
   ·exact sp291A0 k s o r x 32 hxb (k3 h1 h4).symm (by omega) h h1 h4 rfl
   ·have k5:=k4 h1 (x-96).toNat (by omega) (by omega)
    exact sp291B0 k s o r x _ hxb rfl (bd _ _ k5) h h1 (x-96).toNat (by omega) (by omega) k5
  ·exact sp291C0 k s o r x x hxb (k1 h1).symm hxb h h1 rfl
 ·have hT:s.s1=setOf s:=by unfold setOf;rw [if_neg (by omega)]
  obtain ⟨k1,k2,k3,k4⟩:=key _ hT
  by_cases h1:s.s1=48
  ·by_cases h2:x<95
   ·exact sp291D1 k s o r x x hxb (k2 h1 (.inl h2)).symm hxb h h1 h2 rfl
   by_cases h3:126<x
   ·exact sp291E1 k s o r x x hxb (k2 h1 (.inr h3)).symm hxb h h1 h3 rfl
   by_cases h4:x=95
   ·exact sp291A1 k s o r x 32 hxb (k3 h1 h4).symm (by omega) h h1 h4 rfl
   ·have k5:=k4 h1 (x-96).toNat (by omega) (by omega)
    exact sp291B1 k s o r x _ hxb rfl (bd _ _ k5) h h1 (x-96).toNat (by omega) (by omega) k5
  ·exact sp291C1 k s o r x x hxb (k1 h1).symm hxb h h1 rfl
end Go.Proofs.YtlpchliomdomdaaGreat.LgTab
namespace Go.Proofs.YtlpchliomdomdaaGreat.LgTab
open Go Lg
set_option linter.unusedVariables false
set_option linter.unusedSimpArgs false
set_option maxRecDepth 8000
theorem rgb_sum {x y z:Int} (hx:0≤x∧x≤255) (hy:0≤y∧y≤255) (hz:0≤z∧z≤255):rgb x y z=16777216+x*65536+y*256+z:=by
 obtain ⟨a,rfl⟩:∃ a:Nat,x=a:=⟨x.toNat,by omega⟩
 obtain ⟨b,rfl⟩:∃ a:Nat,y=a:=⟨y.toNat,by omega⟩
 obtain ⟨c,rfl⟩:∃ a:Nat,z=a:=⟨z.toNat,by omega⟩
 have s1:shlI (a:Int) 16=((a*65536:Nat):Int):=by
  rw [shlI_def]
  have e:min (16:Int).toNat 64=16:=rfl
  rw [e,wrap_id _ (by omega) (by omega)]
  simp
 have s2:shlI (b:Int) 8=((b*256:Nat):Int):=by
  rw [shlI_def]
  have e:min (8:Int).toNat 64=8:=rfl
  rw [e,wrap_id _ (by omega) (by omega)]
  simp
 have e0:(16777216:Int)=((16777216:Nat):Int):=rfl
 have h1:16777216 ||| a*65536=16777216+a*65536:=by
  have:=Nat.two_pow_add_eq_or_of_lt (i:=24) (b:=a*65536) (by omega) 1
  simpa using this.symm
 have h2:(16777216+a*65536) ||| b*256=16777216+a*65536+b*256:=by
  have:=Nat.two_pow_add_eq_or_of_lt (i:=16) (b:=b*256) (by omega) (256+a)
  have e:2 ^ 16*(256+a)=16777216+a*65536:=by omega
  rw [e] at this
  exact this.symm
 have h3:(16777216+a*65536+b*256) ||| c=16777216+a*65536+b*256+c:=by
  have:=Nat.two_pow_add_eq_or_of_lt (i:=8) (b:=c) (by omega) (65536+a*256+b)
  have e:2 ^ 8*(65536+a*256+b)=16777216+a*65536+b*256:=by omega
  rw [e] at this
  exact this.symm
 unfold rgb
 rw [s1,s2,e0,orI_nat _ _ (by omega) (by omega),h1,orI_nat _ _ (by omega) (by omega),h2,orI_nat _ _ (by omega) (by omega),h3]
 omega
def widM (l:List Int):Int×Int:=match l with
 | a :: b :: t=>if a=5 then (if mxI b 0≤255 then mxI b 0 else -2,2) else match t with
  | c :: d :: _=>if a=2 then (if mxI b 0≤255∧mxI c 0≤255∧mxI d 0≤255 then 16777216+mxI b 0*65536+mxI c 0*256+mxI d 0 else -2,4) else (-2,l.length)
  | _=>(-2,l.length)
 | _=>(-2,l.length)
theorem mx0 (n:Int):0≤mxI n 0:=by unfold mxI;split<;>omega
theorem mp_cons (a:Int) (t:List Int):List.map (fun n=>I n) (a :: t)=I a :: List.map (fun n=>I n) t:=rfl
set_option maxHeartbeats 4000000 in
theorem sp316_5 (k:Nat) (b:Int) (t:List Int):evFun (clOf (modsR tab (k+1)) 3) s316 [.sl 1 (I 5 :: I b :: t.map fun n=>I n)]=some (.tup [I (if mxI b 0≤255 then mxI b 0 else -2),I 2],[]):=by
 have w1:∀ q,evFun (clOf (modsR tab q) 3) s299 [.sl 1 (I 5 :: I b :: t.map fun n=>I n),I 1]=some (I (mxI b 0),[]):=fun q=>sp299 q (5 :: b :: t) 1
 have hb:=mx0 b
 have ht:(2:Int)≤(t.length:Int)+1+1:=by omega
 rw [evFun_evB rfl]
 unfold s316
 generalize mxI b 0=y at *
 by_cases c:y≤255
 ·simp -implicitDefEqProofs [w1,cw299,cr299,c,ht]
 ·simp -implicitDefEqProofs [w1,cw299,cr299,c,ht]
set_option maxHeartbeats 4000000 in
theorem sp316_2 (k:Nat) (b c d:Int) (t:List Int):evFun (clOf (modsR tab (k+1)) 3) s316 [.sl 1 (I 2 :: I b :: I c :: I d :: t.map fun n=>I n)]=some (.tup [I (if mxI b 0≤255∧mxI c 0≤255∧mxI d 0≤255 then 16777216+mxI b 0*65536+mxI c 0*256+mxI d 0 else -2),I 4],[]):=by
 have w1:∀ q,evFun (clOf (modsR tab q) 3) s299 [.sl 1 (I 2 :: I b :: I c :: I d :: t.map fun n=>I n),I 1]=some (I (mxI b 0),[]):=fun q=>sp299 q (2 :: b :: c :: d :: t) 1
 have w2:∀ q,evFun (clOf (modsR tab q) 3) s299 [.sl 1 (I 2 :: I b :: I c :: I d :: t.map fun n=>I n),I 2]=some (I (mxI c 0),[]):=fun q=>sp299 q (2 :: b :: c :: d :: t) 2
 have w3:∀ q,evFun (clOf (modsR tab q) 3) s299 [.sl 1 (I 2 :: I b :: I c :: I d :: t.map fun n=>I n),I 3]=some (I (mxI d 0),[]):=fun q=>sp299 q (2 :: b :: c :: d :: t) 3
 have hb:=mx0 b
 have hc:=mx0 c
 have hd:=mx0 d
 have ht:(2:Int)≤(t.length:Int)+1+1+1+1:=by omega
 have ht4:(4:Int)≤(t.length:Int)+1+1+1+1:=by omega
 rw [evFun_evB rfl]
 unfold s316
 generalize mxI b 0=y at *
 generalize mxI c 0=z at *
 generalize mxI d 0=v at *
 by_cases c1:y≤255
 ·by_cases c2:z≤255
  ·by_cases c3:v≤255
   ·simp -implicitDefEqProofs [w1,w2,w3,cw299,cr299,c1,c2,c3,ht,ht4,wr_id (y*65536) (by omega) (by omega),wr_id (16777216+y*65536) (by omega) (by omega),wr_id (z*256) (by omega) (by omega),wr_id (16777216+y*65536+z*256) (by omega) (by omega),wr_id (16777216+y*65536+z*256+v) (by omega) (by omega)]
   ·simp -implicitDefEqProofs [w1,w2,w3,cw299,cr299,c1,c2,c3,ht,ht4]
  ·simp -implicitDefEqProofs [w1,w2,w3,cw299,cr299,c1,c2,ht,ht4]
 ·simp -implicitDefEqProofs [w1,w2,w3,cw299,cr299,c1,ht,ht4]
set_option maxHeartbeats 4000000 in
theorem sp316_n (k:Nat) (a b c d:Int) (t:List Int) (h5:a≠5) (h2:a≠2):evFun (clOf (modsR tab (k+1)) 3) s316 [.sl 1 (I a :: I b :: I c :: I d :: t.map fun n=>I n)]=some (.tup [I (-2),I ((t.length:Int)+1+1+1+1)],[]):=by
 have ht:(2:Int)≤(t.length:Int)+1+1+1+1:=by omega
 have ht4:(4:Int)≤(t.length:Int)+1+1+1+1:=by omega
 rw [evFun_evB rfl]
 unfold s316
 simp -implicitDefEqProofs [h5,h2,ht,ht4]
theorem sp316_s0 (k:Nat):evFun (clOf (modsR tab (k+1)) 3) s316 [.sl 1 []]=some (.tup [I (-2),I 0],[]):=by
 rw [evFun_evB rfl]
 unfold s316
 simp -implicitDefEqProofs []
theorem sp316_s1 (k:Nat) (a:Int):evFun (clOf (modsR tab (k+1)) 3) s316 [.sl 1 [I a]]=some (.tup [I (-2),I 1],[]):=by
 rw [evFun_evB rfl]
 unfold s316
 simp -implicitDefEqProofs []
theorem sp316_s2 (k:Nat) (a b:Int) (h5:a≠5):evFun (clOf (modsR tab (k+1)) 3) s316 [.sl 1 [I a,I b]]=some (.tup [I (-2),I 2],[]):=by
 rw [evFun_evB rfl]
 unfold s316
 simp -implicitDefEqProofs [h5]
theorem sp316_s3 (k:Nat) (a b c:Int) (h5:a≠5):evFun (clOf (modsR tab (k+1)) 3) s316 [.sl 1 [I a,I b,I c]]=some (.tup [I (-2),I 3],[]):=by
 rw [evFun_evB rfl]
 unfold s316
 simp -implicitDefEqProofs [h5]
theorem sp316 (k:Nat) (l:List Int):evFun (clOf (modsR tab (k+1)) 3) s316 [.sl 1 (intsD l)]=some (.tup [I (widM l).1,I (widM l).2],[]):=by
 unfold intsD
 cases l with
 | nil=>rw [List.map_nil,sp316_s0];rfl
 | cons a l =>
  cases l with
  | nil=>rw [mp_cons,List.map_nil,sp316_s1];rfl
  | cons b l =>
   by_cases h5:a=5
   ·subst h5
    rw [mp_cons,mp_cons,sp316_5]
    simp only [widM,if_true]
   cases l with
   | nil=>rw [mp_cons,mp_cons,List.map_nil,sp316_s2 k a b h5];simp only [widM,if_neg h5];rfl
   | cons c l =>
    cases l with
    | nil=>rw [mp_cons,mp_cons,mp_cons,List.map_nil,sp316_s3 k a b c h5];simp only [widM,if_neg h5];rfl
    | cons d t =>
     rw [mp_cons,mp_cons,mp_cons,mp_cons]
     by_cases h2:a=2
     ·subst h2
      rw [sp316_2]
      simp only [widM,if_neg h5,if_true]
     ·rw [sp316_n k a b c d t h5 h2]
      simp only [widM,if_neg h5,if_neg h2,List.length_cons]
      rfl
theorem norm_mx {n:Int} (h : -1≤n):normI n=mxI n 0:=by
 unfold normI mxI
 repeat' split
 all_goals omega
theorem within_mx (n:Int):within (mxI n 0) 0 255=decide (mxI n 0≤255):=by
 unfold within
 have:=mx0 n
 rw [decide_eq_true this,Bool.true_and]
theorem ext_wid (l:List Int) (old:Int) (h:∀ n,n∈l→ -1≤n):(extM (l.map normI) old).1=(if (widM l).1 = -2 then old else (widM l).1)∧(extM (l.map normI) old).2=(widM l).2:=by
 match l with
 | []=>simp [extM,widM]
 | [a]=>simp [extM,widM]
 | a :: b :: t =>
  have ha:=h a (by simp)
  have hb:=h b (by simp)
  have na5:normI a=5↔a=5:=by unfold normI;split<;>omega
  have na2:normI a=2↔a=2:=by unfold normI;split<;>omega
  have b0:=mx0 b
  by_cases h5:a=5
  ·have h5':=na5.2 h5
   simp only [List.map_cons,extM,widM,if_pos h5,if_pos h5',norm_mx hb,within_mx]
   by_cases c:mxI b 0≤255
   ·simp [c];omega
   ·simp [c]
  have h5':¬normI a=5:=fun hh=>h5 (na5.1 hh)
  match t with
  | []=>simp [extM,widM,h5,h5']
  | [c]=>simp [extM,widM,h5,h5']
  | c :: d :: t =>
   have hc:=h c (by simp)
   have hd:=h d (by simp)
   have c0:=mx0 c
   have d0:=mx0 d
   by_cases h2:a=2
   ·have h2':=na2.2 h2
    simp only [List.map_cons,extM,widM,if_neg h5,if_neg h5',if_pos h2,if_pos h2',norm_mx hb,norm_mx hc,norm_mx hd,within_mx]
    by_cases hh:mxI b 0≤255∧mxI c 0≤255∧mxI d 0≤255
    ·have e:rgb (mxI b 0) (mxI c 0) (mxI d 0)=16777216+mxI b 0*65536+mxI c 0*256+mxI d 0:=by
      exact rgb_sum ⟨b0,hh.1⟩ ⟨c0,hh.2.1⟩ ⟨d0,hh.2.2⟩
     rw [e]
     simp [hh.1,hh.2.1,hh.2.2]
     omega
    ·rw [if_neg hh]
     have:¬((decide (mxI b 0≤255) && decide (mxI c 0≤255) && decide (mxI d 0≤255))=true):=by
      simp
      omega
     rw [if_neg this]
     simp
   ·have h2':¬normI a=2:=fun hh=>h2 (na2.1 hh)
    simp [extM,widM,h5,h5',h2,h2']
end Go.Proofs.YtlpchliomdomdaaGreat.LgTab
