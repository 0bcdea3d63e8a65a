import Derived.Test.YtlpchliomdomdaaGreatPt18
import Derived.Test.YtlpchliomdomdaaGreatPt19
import Derived.Test.YtlpchliomdomdaaGreatPt14
import Derived.Test.YtlpchliomdomdaaGreatPt17
namespace Go.Proofs.YtlpchliomdomdaaGreat.LgTab
open Go Lg
set_option linter.unusedVariables false
set_option linter.unusedSimpArgs false
theorem u64_nat {n:Int} (h:(Lit.int .u64 n).wf=true):∃ T:Nat,n=T∧T<2 ^ 64:=by
 have e:(Lit.int .u64 n).wf=(decide (0≤n) && decide (n≤18446744073709551615)):=rfl
 rw [e] at h
 simp at h
 exact ⟨n.toNat,by omega,by omega⟩
end Go.Proofs.YtlpchliomdomdaaGreat.LgTab
namespace Go.Proofs.YtlpchliomdomdaaGreat.LgTab
open Go Lg
set_option linter.unusedVariables false
set_option linter.unusedSimpArgs false
set_option maxRecDepth 8000
structure Key where
 d:Int
 kind:Int
 priv:Int
 inter:Int
 fin:Int
 deriving DecidableEq
abbrev encK (x:Key):D:= .agg [I x.d,I x.kind,U x.priv,U x.inter,U x.fin]
def keyM (d:Int) (e:Ev):Key:=⟨d,e.k,e.pr,e.it,if e.k=1 then (if 32≤e.r∧e.r≤126 then 32 else 127) else e.fi⟩
theorem sp134g (k:Nat) (d:Int):evFun (clOf (modsR tab k) 3) s134 [I d]=some (B (decide (1≤d∧d≤3)),[]):=by
 rw [evFun_evB rfl]
 unfold s134
 by_cases h1:1≤d
 ·by_cases h2:d≤3<;>simp -implicitDefEqProofs [h1,h2]
 ·simp -implicitDefEqProofs [h1]
set_option maxHeartbeats 1000000 in
theorem sp133g (k:Nat) (d:Int) (e:Ev):evFun (clOf (modsR tab k) 3) s133 [I d,evD e]=some (encK (keyM d e),[]):=by
 obtain ⟨kind,rune,priv,inter,fin,par,text⟩:=e
 rw [evFun_evB rfl]
 unfold s133
 simp only [evD,evL,keyM]
 by_cases h1:kind=1
 ·subst h1
  by_cases h2:32≤rune
  ·by_cases h3:rune≤126<;>simp -implicitDefEqProofs [h2,h3]
  ·simp -implicitDefEqProofs [h2]
 ·simp -implicitDefEqProofs [h1]
def rowsM (d:Int):List (Int×Int×Int×List Int) :=
 [(1,0,0,[32]),(2,0,0,[7,8,9,10,13])] ++
 if d=3 then [(3,0,0,[65,66,67,68,72,73,74,75,89])]
 else [(2,0,0,[14,15]),(3,0,0,[55,56,68,69,77,72,99,61,62]),(3,0,40,[48,66]),(3,0,41,[48,66]),(4,0,0,[65,66,67,68,72,102,74,75,109,114,103]),(4,63,0,[104,108])] ++
  if d=2 then [(4,0,0,[71,100,69,70,64,80,76,77,88])] else []
def tblM (d:Int):List Key:=if 1≤d∧d≤3 then (rowsM d).flatMap (fun r=>r.2.2.2.map fun c=>⟨d,r.1,r.2.1,r.2.2.1,c⟩) else []
theorem sp135g_1 (k:Nat):evFun (clOf (modsR tab (k+1)) 3) s135 [I 1]=some (.omp ((tblM 1).map encK) ((tblM 1).map fun _=>B true),[]):=by kernel_rfl
theorem sp135g_2 (k:Nat):evFun (clOf (modsR tab (k+1)) 3) s135 [I 2]=some (.omp ((tblM 2).map encK) ((tblM 2).map fun _=>B true),[]):=by kernel_rfl
theorem sp135g_3 (k:Nat):evFun (clOf (modsR tab (k+1)) 3) s135 [I 3]=some (.omp ((tblM 3).map encK) ((tblM 3).map fun _=>B true),[]):=by kernel_rfl
theorem sp135g (k:Nat) (d:Int):evFun (clOf (modsR tab (k+1)) 3) s135 [I d]=some (.omp ((tblM d).map encK) ((tblM d).map fun _=>B true),[]):=by
 by_cases h1:d=1
 ·subst h1;exact sp135g_1 k
 by_cases h2:d=2
 ·subst h2;exact sp135g_2 k
 by_cases h3:d=3
 ·subst h3;exact sp135g_3 k
 have hn:¬(1≤d∧d≤3):=by omega
 have ht:tblM d=[]:=by unfold tblM;rw [if_neg hn]
 have w:=fun q=>sp134g q d
 rw [decide_eq_false hn] at w
 rw [ht]
 rw [evFun_evB rfl]
 unfold s135
 simp -implicitDefEqProofs [cw134,cr134,w]
theorem eqK_key (a b:Key):eqK true [1,1,1,1,1] (encK a) (encK b)=some (decide (a=b)):=by
 obtain ⟨a1,a2,a3,a4,a5⟩:=a
 obtain ⟨b1,b2,b3,b4,b5⟩:=b
 simp only [eqK,eqLeaves,eqLeaf,if_true,Option.bind_some,Option.map_some,Option.some.injEq,Key.mk.injEq]
 rw [Bool.eq_iff_iff]
 simp
theorem findK_key (a:Key):∀ T:List Key,findK true [1,1,1,1,1] (encK a) (T.map encK)=some (T.findIdx? fun b=>decide (a=b))
 | []=>rfl
 | b :: T=>by
  simp only [List.map_cons,findK,eqK_key,Option.bind_some,findK_key a T,List.findIdx?_cons]
  by_cases h:a=b<;>simp [h]
theorem plains_key:∀ T:List Key,plains (T.map encK)=true
 | []=>rfl
 | b :: T=>by simp only [List.map_cons,plains,plains_key T];rfl
theorem plains_B:∀ T:List Key,plains (T.map fun _=>B true)=true
 | []=>rfl
 | b :: T=>by simp only [List.map_cons,plains,plains_B T];rfl
def knowsM (d:Int) (e:Ev):Bool:=(tblM d).any fun b=>decide (keyM d e=b)
theorem any_idx (T:List Key) (p:Key→Bool):(T.findIdx? p=none∧T.any p=false)∨∃ j,T.findIdx? p=some j∧j<T.length∧T.any p=true:=by
 cases h:T.findIdx? p with
 | none =>
  left
  refine ⟨rfl,?_⟩
  rw [List.any_eq_false]
  exact fun b hb=>by simpa using List.findIdx?_eq_none_iff.1 h b hb
 | some j =>
  right
  have h2:(T.findIdx? p).isSome=true:=by rw [h];rfl
  rw [List.findIdx?_isSome] at h2
  exact ⟨j,rfl,(List.findIdx?_eq_some_iff_findIdx_eq.1 h).1,h2⟩
set_option maxHeartbeats 2000000 in
theorem sp132g (k:Nat) (d:Int) (e:Ev):evFun (clOf (modsR tab (k+2)) 3) s132 [I d,evD e]=some (B (knowsM d e),[]):=by
 have h3:=fun q=>sp133g q d e
 have h5:=fun q=>sp135g q d
 have fk:=findK_key (keyM d e) (tblM d)
 have hq:=eqK_key (keyM d e) (keyM d e)
 have ha:=any_idx (tblM d) fun b=>decide (keyM d e=b)
 unfold knowsM
 generalize keyM d e=x at *
 generalize tblM d=T at *
 have p1:=plains_key T
 have p2:=plains_B T
 obtain ⟨kind,rune,priv,inter,fin,par,text⟩:=e
 obtain ⟨x1,x2,x3,x4,x5⟩:=x
 simp only [encK,decide_true] at hq fk
 simp only [evD,evL,encK] at h3 ⊢
 rcases ha with ⟨e1,e2⟩ | ⟨j,e1,hj,e2⟩
 ·rw [e2]
  rw [e1] at fk
  rw [evFun_evB rfl]
  unfold s132
  simp -implicitDefEqProofs [cw135,cr135,cw133,cr133,h3,h5,hq,fk,p1,p2]
 ·rw [e2]
  rw [e1] at fk
  rw [evFun_evB rfl]
  unfold s132
  simp -implicitDefEqProofs [cw135,cr135,cw133,cr133,h3,h5,hq,fk,hj,p1,p2]
end Go.Proofs.YtlpchliomdomdaaGreat.LgTab
namespace Go.Proofs.YtlpchliomdomdaaGreat.LgTab
open Go Lg
set_option linter.unusedVariables false
set_option linter.unusedSimpArgs false
set_option maxRecDepth 8000
theorem sp463 (k:Nat) (l:List Int) (n:Int) (hl:l.length≤1000):∃ r:Int,evFun (clOf (modsR tab k) 3) s463 [.sl 1 (intsD l),I n]=some (I r,[])∧(0≤r↔n∈l):=by
 rw [evFun_evB rfl]
 unfold s463
 simp -implicitDefEqProofs []
 refine evB_inv (P:=fun o=>∃ r:Int,o=some (I r,[])∧(0≤r↔n∈l)) (σ:=Nat) (fun i=>[.sl 1 (intsD l),I n,I 0,I l.length,I i]) (fun i=>l.length-i) (fun i=>i≤l.length∧n∉l.take i)
  (fun ex t=>(ex = .exit 0∧t=[.sl 1 (intsD l),I n,I 0,I l.length,I l.length]∧n∉l)∨(ex = .ret∧∃ i:Nat,t=[.sl 1 (intsD l),I n,I i,I l.length,I i]∧n∈l)) 0 ?_ ⟨by omega,by simp⟩ (by simp [rounds];omega) ?_ ?_
 ·simp -implicitDefEqProofs []
 ·rintro i ⟨hi,hn⟩
  by_cases h1:i<l.length
  ·have hlt:(i:Int)<l.length:=by omega
   obtain ⟨x,hx⟩:=get_ex h1
   have g:=intsD_getD hx
   have g':=intsD_at hx
   by_cases h2:n=x
   ·right
    exact ⟨.ret,[.sl 1 (intsD l),I n,I i,I l.length,I i],by simp -implicitDefEqProofs [hlt,h1,g,g',h2],by simp, .inr ⟨rfl,i,rfl,by rw [h2];exact List.mem_of_getElem? hx⟩⟩
   ·left
    refine ⟨i+1,by simp -implicitDefEqProofs [hlt,h1,g,g',h2,wr_id ((i:Int)+1) (by omega) (by omega)],by omega,by omega,?_⟩
    rw [take_snoc hx,List.mem_append]
    simp [hn,h2]
  ·right
   have hlt:¬(i:Int)<l.length:=by omega
   have e:i=l.length:=by omega
   subst e
   exact ⟨.exit 0,[.sl 1 (intsD l),I n,I 0,I l.length,I l.length],by simp -implicitDefEqProofs [hlt],by simp, .inl ⟨rfl,rfl,by rw [List.take_length] at hn;exact hn⟩⟩
 ·rintro ex t (⟨rfl,rfl,h⟩ | ⟨rfl,i,rfl,h⟩)
  ·refine ⟨-1,by simp -implicitDefEqProofs [],by simp [h]⟩
  ·refine ⟨i,by simp -implicitDefEqProofs [],by simp [h]⟩
theorem sp455 (k:Nat) (l:List Int) (n:Int) (hl:l.length≤1000):evFun (clOf (modsR tab (k+1)) 3) s455 [.sl 1 (intsD l),I n]=some (B (decide (n∈l)),[]):=by
 obtain ⟨r,w,h⟩:=sp463 k l n hl
 have e:decide (n∈l)=decide (0≤r):=by simp only [h]
 rw [e,evFun_evB rfl]
 unfold s455
 simp -implicitDefEqProofs [cw463,cr463,w]
theorem sp430 (k:Nat) (n lo hi:Int):evFun (clOf (modsR tab k) 3) s430 [I n,I lo,I hi]=some (B (decide (lo≤n) && decide (n≤hi)),[]):=by
 rw [evFun_evB rfl]
 unfold s430
 by_cases h:lo≤n<;>simp -implicitDefEqProofs [h]
def isLook (n:Int):Prop:=n=0∨n=1∨n=4∨n=5∨n=7
def isCol (n:Int):Prop:=(30≤n∧n≤37)∨(40≤n∧n≤47)∨n=39∨n=49
instance (n:Int):Decidable (isLook n):=by unfold isLook;exact inferInstance
instance (n:Int):Decidable (isCol n):=by unfold isCol;exact inferInstance
def looksB (d n:Int):Bool:=decide (n = -1∨isLook n∨(d=2∧isCol n))
set_option maxHeartbeats 2000000 in
theorem sp427 (k:Nat) (d n:Int):evFun (clOf (modsR tab (k+2)) 3) s427 [I d,I n]=some (B (looksB d n),[]):=by
 have w:=fun q=>sp455 q [0,1,4,5,7] n (by simp)
 have w2:=fun q a b=>sp430 q n a b
 have hm:decide (n∈([0,1,4,5,7]:List Int))=decide (isLook n):=decide_eq_decide.2 (by unfold isLook;simp)
 simp only [intsD,List.map_cons,List.map_nil,hm] at w
 unfold looksB
 by_cases c1:n = -1
 ·rw [evFun_evB rfl]
  unfold s427
  simp -implicitDefEqProofs [c1]
 by_cases c2:isLook n
 ·rw [evFun_evB rfl]
  unfold s427
  simp -implicitDefEqProofs [c1,cw455,cr455,w,eq_true c2]
 have hd:decide (n = -1∨isLook n∨d=2∧isCol n)=(decide (d=2) && decide (isCol n)):=by simp [c1,c2]
 rw [hd]
 by_cases c3:d=2
 ·by_cases a1:30≤n∧n≤37
  ·have ec:isCol n:= .inl a1
   rw [evFun_evB rfl]
   unfold s427
   simp -implicitDefEqProofs [c1,cw455,cr455,w,eq_false c2,c3,cw430,cr430,w2,a1.1,a1.2,eq_true ec]
  ·have b1:(decide (30≤n) && decide (n≤37))=false:=by rw [←Bool.not_eq_true];simpa using a1
   by_cases a2:40≤n∧n≤47
   ·have ec:isCol n:= .inr (.inl a2)
    rw [evFun_evB rfl]
    unfold s427
    simp -implicitDefEqProofs [c1,cw455,cr455,w,eq_false c2,c3,cw430,cr430,w2,b1,a2.1,a2.2,eq_true ec]
   ·have b2:(decide (40≤n) && decide (n≤47))=false:=by rw [←Bool.not_eq_true];simpa using a2
    by_cases a3:n=39
    ·subst a3
     have ec:isCol 39:= .inr (.inr (.inl rfl))
     rw [evFun_evB rfl]
     unfold s427
     simp -implicitDefEqProofs [cw455,cr455,w,eq_false c2,c3,cw430,cr430,w2,b1,b2,eq_true ec]
    ·by_cases a4:n=49
     ·subst a4
      have ec:isCol 49:= .inr (.inr (.inr rfl))
      rw [evFun_evB rfl]
      unfold s427
      simp -implicitDefEqProofs [cw455,cr455,w,eq_false c2,c3,cw430,cr430,w2,b1,b2,eq_true ec]
     ·have ec:¬isCol n:=by unfold isCol;rintro (h | h | h | h)<;>contradiction
      rw [evFun_evB rfl]
      unfold s427
      simp -implicitDefEqProofs [c1,cw455,cr455,w,eq_false c2,c3,cw430,cr430,w2,b1,b2,a3,a4,eq_false ec]
 ·rw [evFun_evB rfl]
  unfold s427
  simp -implicitDefEqProofs [c1,cw455,cr455,w,eq_false c2,c3]
def isMode (n:Int):Prop:=n=1∨n=6∨n=7∨n=25
instance (n:Int):Decidable (isMode n):=by unfold isMode;exact inferInstance
theorem sp334 (k:Nat):evFun (clOf (modsR tab k) 3) s334 []=some (.osl true 1 [I 1,I 6,I 7,I 25],[]):=by
 rw [evFun_evB rfl]
 unfold s334
 simp -implicitDefEqProofs []
theorem sp335 (k:Nat) (n:Int):evFun (clOf (modsR tab (k+2)) 3) s335 [I n]=some (B (decide (isMode n)),[]):=by
 have w:=fun q=>sp455 q [1,6,7,25] n (by simp)
 have w2:=fun q=>sp334 q
 have hm:decide (n∈([1,6,7,25]:List Int))=decide (isMode n):=decide_eq_decide.2 (by unfold isMode;simp)
 simp only [intsD,List.map_cons,List.map_nil,hm] at w
 rw [evFun_evB rfl]
 unfold s335
 simp -implicitDefEqProofs [cw334,cr334,w2,cw455,cr455,w]
def modeB (d n:Int):Bool:=decide (isMode n) && (decide (d≠1) || decide (n≠25))
theorem sp428 (k:Nat) (d n:Int):evFun (clOf (modsR tab (k+3)) 3) s428 [I d,I n]=some (B (modeB d n),[]):=by
 have w:=fun q=>sp335 q n
 unfold modeB
 by_cases c:isMode n
 ·by_cases c2:d=1
  ·rw [evFun_evB rfl]
   unfold s428
   simp -implicitDefEqProofs [cw335,cr335,w,eq_true c,c2]
  ·rw [evFun_evB rfl]
   unfold s428
   simp -implicitDefEqProofs [cw335,cr335,w,eq_true c,c2]
 ·rw [evFun_evB rfl]
  unfold s428
  simp -implicitDefEqProofs [cw335,cr335,w,eq_false c]
def countsB (d:Int) (e:Ev) (n:Int):Bool :=
 if e.k=4∧e.fi=109 then looksB d n else if e.k=4∧e.pr=63 then modeB d n else true
set_option maxHeartbeats 1000000 in
theorem sp425 (k:Nat) (d:Int) (e:Ev) (n:Int):evFun (clOf (modsR tab (k+4)) 3) s425 [I d,evD e,I n]=some (B (countsB d e n),[]):=by
 obtain ⟨ek,er,ep,ei,ef,ps,et⟩:=e
 have w1:=fun q=>sp427 q d n
 have w2:=fun q=>sp428 q d n
 rw [evFun_evB rfl]
 unfold s425 countsB
 by_cases c1:ek=4
 ·by_cases c2:ef=109
  ·simp -implicitDefEqProofs [c1,c2,cw427,cr427,w1]
  ·by_cases c3:ep=63
   ·simp -implicitDefEqProofs [c1,c2,c3,cw428,cr428,w2]
   ·simp -implicitDefEqProofs [c1,c2,c3]
 ·simp -implicitDefEqProofs [c1]
theorem sp426g (k:Nat) (b:Int):evFun (clOf (modsR tab k) 3) s426 [U b]=some (.agg [I 4,R 0,U 0,U 0,U b, .sn,S []],[]):=by
 rw [evFun_evB rfl]
 unfold s426
 simp -implicitDefEqProofs []
noncomputable def smallS (s:Sc) (b:Int):Sc:=if b=73 then backS s else if b=89 then s else doS s ⟨4,0,0,0,b,none,[]⟩
theorem sp429g (k:Nat) (s:Sc) (o:OkS s) (b:Int):evFun (clOf (modsR tab (k+9)) 3) s429 [scD s,U b]=some (scD (smallS s b),[]):=by
 have w:=fun q=>sp426g q b
 have v:=fun q=>sp400 q s o ⟨4,0,0,0,b,none,[]⟩ (by simp [Ev.par])
 have u:=fun q=>sp123 q s o
 simp only [evD,evL,parD] at v
 unfold smallS
 generalize doS s ⟨4,0,0,0,b,none,[]⟩=S' at *
 generalize backS s=S2 at *
 rw [evFun_evB rfl]
 unfold s429
 by_cases h1:b=73
 ·simp -implicitDefEqProofs [h1,cw123,cr123,u]
 ·by_cases h2:b=89
  ·simp -implicitDefEqProofs [h1,h2]
  ·simp -implicitDefEqProofs [h1,h2,cw426,cr426,w,cw400,cr400,v]
noncomputable def tdoS (d:Int) (s:Sc) (e:Ev):Sc :=
 if knowsM d e=false then s
 else if d=3∧e.k=3 then smallS s e.fi
 else if e.par=[] then doS s e
 else if e.par.filter (countsB d e)=[] then s
 else doS s {e with ps:=some (e.par.filter (countsB d e))}
def zS:List D:=[I 0,I 0, .sn,I 0,I 0,B false,I 0,I 0,I 0,I 0,I 0,T64 0,U 0,U 0,I 0,B false,B false,B false,B false,B false,I 0,I 0,I 0,I 0,I 0,U 0,U 0,I 0,B false]
theorem filt_take (p:Int→Bool) (l:List Int) (i:Nat) (x:Int) (h:l[i]? = some x):(l.take (i+1)).filter p=(l.take i).filter p++(if p x then [x] else []):=by
 rw [take_snoc h,List.filter_append]
 simp [List.filter_cons]
theorem filt_len (p:Int→Bool) (l:List Int) (i:Nat):((l.take i).filter p).length≤i:=Nat.le_trans (List.length_filter_le _ _) (by rw [List.length_take];omega)
end Go.Proofs.YtlpchliomdomdaaGreat.LgTab
namespace Go.Proofs.YtlpchliomdomdaaGreat.LgTab
open Go Lg
set_option linter.unusedVariables false
set_option linter.unusedSimpArgs false
set_option maxRecDepth 8000
theorem kn_m {d r pr it:Int} {ps:Option (List Int)} {tx:List UInt8} (h:knowsM d ⟨4,r,pr,it,109,ps,tx⟩=true) (hd:1≤d∧d≤3):pr=0∧it=0:=by
 have h5:d=1∨d=2∨d=3:=by omega
 rcases h5 with rfl | rfl | rfl<;>simp [knowsM,tblM,rowsM,keyM] at h<;>exact ⟨by omega,by omega⟩
theorem kn_q {d r it fi:Int} {ps:Option (List Int)} {tx:List UInt8} (h:knowsM d ⟨4,r,63,it,fi,ps,tx⟩=true) (hd:1≤d∧d≤3):it=0∧d≠3∧fi≠109:=by
 have h5:d=1∨d=2∨d=3:=by omega
 rcases h5 with rfl | rfl | rfl<;>simp [knowsM,tblM,rowsM,keyM] at h<;>(try omega)
theorem kn_3 {d r pr it fi:Int} {ps:Option (List Int)} {tx:List UInt8} (h:knowsM d ⟨3,r,pr,it,fi,ps,tx⟩=true) (hd:d=3):fi=65∨fi=66∨fi=67∨fi=68∨fi=72∨fi=73∨fi=74∨fi=75∨fi=89:=by
 subst hd
 simp [knowsM,tblM,rowsM,keyM] at h
 omega
theorem do_sgr (s:Sc) (r:Int) (ps:Option (List Int)) (tx:List UInt8):doS s ⟨4,r,0,0,109,ps,tx⟩={s with p:=applyM s.p (ps.getD [])}:=by
 unfold doS
 simp [csiS,isMove,isChg,isRows,Ev.par]
theorem do_setm (s:Sc) (r fi:Int) (ps:Option (List Int)) (tx:List UInt8):doS s ⟨4,r,63,0,fi,ps,tx⟩=setS s ⟨4,r,63,0,fi,ps,tx⟩:=by
 unfold doS
 simp [csiS]
theorem norm_max {n:Int} (h : -1≤n):normI (mxI n 0)=normI n:=by
 unfold normI mxI
 repeat' split
 all_goals omega
theorem apply_max (p:Pn) (l:List Int) (h:∀ n,n∈l→ -1≤n):applyM p (l.map fun n=>mxI n 0)=applyM p l:=by
 unfold applyM
 have e:(l.map fun n=>mxI n 0).map normI=l.map normI:=by
  rw [List.map_map]
  apply List.map_congr_left
  intro n hn
  exact norm_max (h n hn)
 rw [e]
 by_cases hl:l=[]
 ·subst hl;rfl
 ·rw [if_neg hl,if_neg (by simpa using hl)]
def fewB (d n:Int):Bool:=decide (isLook n∨(d=2∧isCol n))
def fewerL (d:Int) (l:List Int):List Int:=(l.map fun n=>mxI n 0).filter (fewB d)
theorem few_look (d n:Int) (h : -1≤n):fewB d (mxI n 0)=looksB d n:=by
 unfold fewB looksB isLook isCol mxI
 apply decide_eq_decide.2
 split<;>omega
theorem fewer_eq (d:Int):∀ (l:List Int),(∀ n,n∈l→ -1≤n)→fewerL d l=(l.filter (looksB d)).map fun n=>mxI n 0
 | [],_=>rfl
 | n :: l,h=>by
  have ih:=fewer_eq d l fun x hx=>h x (by simp [hx])
  have hn:=few_look d n (h n (by simp))
  unfold fewerL at ih ⊢
  simp only [List.map_cons,List.filter_cons,hn,ih]
  split<;>rfl
theorem counts_m (d r pr it:Int) (ps:Option (List Int)) (tx:List UInt8):countsB d ⟨4,r,pr,it,109,ps,tx⟩=looksB d:=by
 funext n
 unfold countsB
 rw [if_pos ⟨rfl,rfl⟩]
theorem counts_q (d r it fi:Int) (hf:fi≠109) (ps:Option (List Int)) (tx:List UInt8):countsB d ⟨4,r,63,it,fi,ps,tx⟩=modeB d:=by
 funext n
 unfold countsB
 rw [if_neg (fun h=>hf h.2),if_pos ⟨rfl,rfl⟩]
theorem counts_0 (d:Int) (e:Ev) (h:e.k≠4∨(e.fi≠109∧e.pr≠63)):countsB d e=fun _=>true:=by
 funext n
 unfold countsB
 rcases h with h | ⟨h1,h2⟩
 ·rw [if_neg (fun x=>h x.1),if_neg (fun x=>h x.1)]
 ·rw [if_neg (fun x=>h1 x.2),if_neg (fun x=>h2 x.2)]
theorem ref_m (d:Int) (hd:1≤d∧d≤3) (s:Sc) (r pr it:Int) (ps:Option (List Int)) (tx:List UInt8) (hk:knowsM d ⟨4,r,pr,it,109,ps,tx⟩=true) (hp:∀ n,n∈ps.getD []→ -1≤n) :
  tdoS d s ⟨4,r,pr,it,109,ps,tx⟩=if ps.getD []≠[]∧fewerL d (ps.getD [])=[] then s else doS s ⟨4,r,pr,it,109,some (fewerL d (ps.getD [])),tx⟩:=by
 obtain ⟨rfl,rfl⟩:=kn_m hk hd
 have e1:Ev.par ⟨4,r,0,0,109,ps,tx⟩=ps.getD []:=rfl
 unfold tdoS
 rw [if_neg (by rw [hk];simp),if_neg (by simp),e1,counts_m,fewer_eq d _ hp]
 by_cases hl:ps.getD []=[]
 ·rw [if_pos hl,if_neg (fun h=>h.1 hl),do_sgr,do_sgr,hl]
  rfl
 ·rw [if_neg hl]
  by_cases hf:(ps.getD []).filter (looksB d)=[]
  ·rw [if_pos hf,if_pos ⟨hl,by rw [hf];rfl⟩]
  ·rw [if_neg hf,if_neg (fun h=>hf (by simpa using h.2)),do_sgr,do_sgr]
   have:=apply_max s.p ((ps.getD []).filter (looksB d)) (fun n hn=>hp n (List.mem_filter.1 hn).1)
   simp only [Option.getD_some,this]
theorem setM_no {s:Sc} {n:Int} (h:¬isMode n) (on:Bool):setM s n on=s:=by
 unfold isMode at h
 unfold setM
 rw [if_neg (by omega),if_neg (by omega),if_neg (by omega),if_neg (by omega)]
theorem fold_filt (on:Bool) (p:Int→Bool):∀ (l:List Int) (s:Sc),(∀ n,n∈l→p n=false→¬isMode n)→(l.filter p).foldl (fun s n=>setM s n on) s=l.foldl (fun s n=>setM s n on) s
 | [],s,_=>rfl
 | n :: l,s,h=>by
  have ih:=fun s=>fold_filt on p l s fun x hx=>h x (by simp [hx])
  rw [List.filter_cons,List.foldl_cons]
  cases hp:p n with
  | true=>rw [if_pos rfl,List.foldl_cons,ih]
  | false =>
   rw [if_neg (by simp),ih,setM_no (h n (by simp) hp)]
theorem setS_eq (s:Sc) (r fi:Int) (ps:Option (List Int)) (tx:List UInt8):setS s ⟨4,r,63,0,fi,ps,tx⟩=if fi=104∨fi=108 then (ps.getD []).foldl (fun s n=>setM s n (decide (fi=104))) s else s:=by
 unfold setS setTo
 have e1:Ev.par ⟨4,r,63,0,fi,ps,tx⟩=ps.getD []:=rfl
 rw [e1,List.take_length]
theorem ref_q (d:Int) (hd:1≤d∧d≤3) (s:Sc) (r it fi:Int) (ps:Option (List Int)) (tx:List UInt8) (hk:knowsM d ⟨4,r,63,it,fi,ps,tx⟩=true) :
  tdoS d s ⟨4,r,63,it,fi,ps,tx⟩=if d=2 then doS s ⟨4,r,63,it,fi,ps,tx⟩ else doS s ⟨4,r,63,it,fi,some ((ps.getD []).filter fun n=>decide (n≠25)),tx⟩:=by
 obtain ⟨rfl,h3,hf⟩:=kn_q hk hd
 have e1:Ev.par ⟨4,r,63,0,fi,ps,tx⟩=ps.getD []:=rfl
 have main:tdoS d s ⟨4,r,63,0,fi,ps,tx⟩=setS s ⟨4,r,63,0,fi,some ((ps.getD []).filter (modeB d)),tx⟩:=by
  unfold tdoS
  rw [if_neg (by rw [hk];simp),if_neg (by simp),e1,counts_q d r 0 fi hf]
  by_cases hl:ps.getD []=[]
  ·rw [if_pos hl,do_setm,setS_eq,setS_eq,hl]
   rfl
  ·rw [if_neg hl]
   by_cases hz:(ps.getD []).filter (modeB d)=[]
   ·rw [if_pos hz,setS_eq,hz]
    split<;>rfl
   ·rw [if_neg hz,do_setm]
 rw [main]
 split
 ·rename_i h2
  subst h2
  rw [do_setm,setS_eq,setS_eq]
  split
  ·simp only [Option.getD_some]
   rw [fold_filt]
   intro n hn hm
   unfold modeB at hm
   simpa using hm
  ·rfl
 ·rw [do_setm,setS_eq,setS_eq]
  split
  ·simp only [Option.getD_some]
   have e2:(ps.getD []).filter (modeB d)=((ps.getD []).filter fun n=>decide (n≠25)).filter (fun n=>decide (isMode n)):=by
    rw [List.filter_filter]
    apply List.filter_congr
    intro n _
    have hd1:d=1:=by omega
    subst hd1
    unfold modeB
    simp
   rw [e2,fold_filt]
   intro n hn hm
   simpa using hm
  ·rfl
theorem ref_0 (d:Int) (s:Sc) (e:Ev) (hk:knowsM d e=true) (h3:¬(d=3∧e.k=3)) (h:e.k≠4∨(e.fi≠109∧e.pr≠63)):tdoS d s e=doS s e:=by
 unfold tdoS
 rw [if_neg (by rw [hk];simp),if_neg h3,counts_0 d e h]
 obtain ⟨ek,er,ep,ei,ef,ps,et⟩:=e
 cases ps with
 | none=>rw [if_pos (show Ev.par ⟨ek,er,ep,ei,ef,none,et⟩=[] from rfl)]
 | some l =>
  have e1:Ev.par ⟨ek,er,ep,ei,ef,some l,et⟩=l:=rfl
  have e2:l.filter (fun _=>true)=l:=List.filter_eq_self.2 (by simp)
  simp only [e1,e2]
  by_cases hl:l=[]
  ·rw [if_pos hl]
  ·rw [if_neg hl,if_neg hl]
end Go.Proofs.YtlpchliomdomdaaGreat.LgTab
