import Derived.Test.YtlpchliomdomdaaGreatPt8
import Derived.Test.YtlpchliomdomdaaGreatPt21
import Derived.Test.YtlpchliomdomdaaGreatPt9
import Derived.Test.YtlpchliomdomdaaGreatPt18
import Derived.Test.YtlpchliomdomdaaGreatPt5
import Derived.Test.YtlpchliomdomdaaGreatPt38
import Derived.Test.YtlpchliomdomdaaGreatPt22
import Derived.Test.YtlpchliomdomdaaGreatPt24
namespace Go.Proofs.YtlpchliomdomdaaGreat.LgTab
open Go Lg
set_option linter.unusedVariables false
set_option linter.unusedSimpArgs false
set_option maxRecDepth 8000
def Ow (x:D):Prop:=x = .sn∨∃ l,x = .osl true 1 l
@[simp] theorem ow_sn:Ow .sn:= .inl rfl
@[simp] theorem ow_osl (l:List D):Ow (.osl true 1 l):= .inr ⟨l,rfl⟩
@[simp] theorem ownU_nil:ownU [] = .sn:=rfl
@[simp] theorem ownI_nil:ownI [] = .sn:=rfl
@[simp] theorem ownU_cons (x:Int) (l:List Int):ownU (x :: l) = .osl true 1 (U x :: l.map U):=rfl
@[simp] theorem ownI_cons (x:Int) (l:List Int):ownI (x :: l) = .osl true 1 (I x :: intsD l):=rfl
@[simp] theorem parD_none:parD none = .sn:=rfl
@[simp] theorem parD_some (l:List Int):parD (some l) = .sl 1 (intsD l):=rfl
@[simp] theorem plains_R (l:List Int):plains (l.map R)=true:=by
 induction l with
 | nil=>rfl
 | cons n l ih=>simp [plains,plain,ih]
@[simp] theorem evsL_nil:evsL []=[]:=rfl
@[simp] theorem evsL_cons (e:Ev) (l:List Ev):evsL (e :: l)=evD e :: evsL l:=rfl
@[simp] theorem evsL_len (l:List Ev):(evsL l).length=l.length:=by simp [evsL]
end Go.Proofs.YtlpchliomdomdaaGreat.LgTab
namespace Go.Proofs.YtlpchliomdomdaaGreat.LgTab
open Go Lg
set_option linter.unusedVariables false
set_option linter.unusedSimpArgs false
set_option maxRecDepth 8000
theorem bytesU:∀ t:List Int,(∀ n,n∈t→0≤n∧n≤255)→bytesOfD (t.map U)=some (t.map fun n=>UInt8.ofNat n.toNat)
 | [],_=>rfl
 | n :: t,h=>by
  have h1:=h n (by simp)
  have h2:(0:Int)≤n∧n<256:=by omega
  simp [bytesOfD,u8OfD,bytesU t (fun x hx=>h x (by simp [hx])),h2]
end Go.Proofs.YtlpchliomdomdaaGreat.LgTab
namespace Go.Proofs.YtlpchliomdomdaaGreat.LgTab
open Go Lg
set_option linter.unusedVariables false
set_option linter.unusedSimpArgs false
set_option maxRecDepth 8000
def GoodQ (o:Option (D×List D)):Prop:=∃ e:Ev,o=some (evD e,[])∧RightE e∧(∀ n,n∈e.par→ -1≤n∧n≤60)∧e.par.length≤5∧(0≤e.r∧e.r≤1000000)
theorem goodq_sn (kind rune priv inter fin:Int) (text:List UInt8) (hr:0≤rune∧rune≤1000000) (h:RightE ⟨kind,rune,priv,inter,fin,none,text⟩):GoodQ (some (.agg [I kind,R rune,U priv,U inter,U fin, .sn, .sc (.string ⟨⟨text⟩⟩)],[])):=⟨⟨kind,rune,priv,inter,fin,none,text⟩,rfl,h,by intro n hn;exact absurd hn (List.not_mem_nil),Nat.zero_le _,hr⟩
theorem goodq_sl (kind rune priv inter fin:Int) (text:List UInt8) (l:List Int) (hl:(∀ n,n∈l→ -1≤n∧n≤60)∧l.length≤5) (hr:0≤rune∧rune≤1000000) (h:RightE ⟨kind,rune,priv,inter,fin,some l,text⟩):GoodQ (some (.agg [I kind,R rune,U priv,U inter,U fin, .sl 1 (l.map I), .sc (.string ⟨⟨text⟩⟩)],[])):=⟨⟨kind,rune,priv,inter,fin,some l,text⟩,rfl,h,hl.1,hl.2,hr⟩
theorem rq1 {r:Int} (h:rightR r):RightE ⟨1,r,0,0,0,none,[]⟩:= .inl ⟨rfl,h,rfl,rfl,rfl,rfl,rfl⟩
theorem rq2 {f:Int} (h:0≤f∧f<32∧f≠24∧f≠26∧f≠27):RightE ⟨2,0,0,0,f,none,[]⟩:= .inr (.inl ⟨rfl,rfl,rfl,rfl,h,rfl,rfl⟩)
theorem rq3 {i f:Int} (hi:i=0∨32≤i∧i≤47) (h:48≤f∧f≤126) (h2:i≠0∨¬isLonger f):RightE ⟨3,0,0,i,f,none,[]⟩:= .inr (.inr (.inl ⟨rfl,rfl,rfl,hi,h,h2,rfl,rfl⟩))
theorem rq4n {p f:Int} (hp:p=0∨60≤p∧p≤63) (h:64≤f∧f≤126):RightE ⟨4,0,p,0,f,none,[]⟩:= .inr (.inr (.inr (.inl ⟨rfl,rfl,hp, .inl rfl,h,(by intro n hn;cases hn),Nat.zero_le _,by simp [Ev.par],rfl⟩)))
theorem rq4s {p f:Int} {l:List Int} (hp:p=0∨60≤p∧p≤63) (h:64≤f∧f≤126) (hl:(∀ n,n∈l→ -1≤n∧n≤60)∧l.length≤5) (hn:l≠[-1]):RightE ⟨4,0,p,0,f,some l,[]⟩:= .inr (.inr (.inr (.inl ⟨rfl,rfl,hp, .inl rfl,h,fun n hm=>by have:=hl.1 n hm;omega,by show l.length≤16;omega,hn,rfl⟩)))
theorem rq5 {t:List UInt8} (h:∀ b,b∈t→32≤b.toNat) (hl:t.length≤4096):RightE ⟨5,0,0,0,0,none,t⟩:= .inr (.inr (.inr (.inr ⟨rfl,rfl,rfl,rfl,rfl,rfl,h,hl⟩)))
set_option maxHeartbeats 4000000 in
theorem sp63q (k:Nat) (kd rn fn:Int) (ps:List Int) (tx:List Int) (htx:∀ c,c∈tx→0≤c∧c≤255):GoodQ (evFun (clOf (modsR tab (k+1)) 3) s63 [.agg [I kd,I rn,I fn, .sl 1 (ps.map I), .sl 1 (tx.map U)]]):=by
 rw [evFun_evB rfl]
 unfold s63
 obtain ⟨q,hq⟩:∃ q,q=0+kd % (5-0+1):=⟨_,rfl⟩
 have wq:=sp174c k kd 0 5 (by omega) (by omega) (by omega) q hq
 have bq:0≤q∧q≤5:=by omega
 clear hq
 have hc:q=0∨q=1∨q=2∨q=3∨¬(q=0∨q=1∨q=2∨q=3):=by omega
 rcases hc with rfl | rfl | rfl | rfl | hc
 ·obtain ⟨n,hn⟩:∃ n,n=0+rn % (94-0+1):=⟨_,rfl⟩
  have wn:=sp174c k rn 0 94 (by omega) (by omega) (by omega) n hn
  obtain ⟨w,hw⟩:∃ w,w=0+fn % (5-0+1):=⟨_,rfl⟩
  have ww:=sp174c k fn 0 5 (by omega) (by omega) (by omega) w hw
  have hc:w=0∨w=1∨w=2∨w=3∨w=4∨w=5:=by omega
  have bn:0≤n∧n≤94:=by omega
  have f1:wr (32+n)=32+n:=wr_id _ (by omega) (by omega)
  have f2:IntKind.i32.wrap (32+n)=32+n:=wrap_i32 _ (by omega) (by omega)
  clear hn hw
  by_cases h7:rn.tmod 7=3
  ·rcases hc with rfl | rfl | rfl | rfl | rfl | rfl<;>simp -implicitDefEqProofs [cw174,binD_rem,wq,wn,ww,h7]<;>exact goodq_sn _ _ _ _ _ _ (by omega) (rq1 (by unfold rightR;omega))
  ·simp -implicitDefEqProofs [cw174,binD_rem,wq,wn,h7,f1,f2]
   exact goodq_sn _ _ _ _ _ _ (by omega) (rq1 (by unfold rightR;omega))
 ·obtain ⟨w,hw⟩:∃ w,w=0+fn % (8-0+1):=⟨_,rfl⟩
  have ww:=sp174c k fn 0 8 (by omega) (by omega) (by omega) w hw
  have hc:w=0∨w=1∨w=2∨w=3∨w=4∨w=5∨w=6∨w=7∨w=8:=by omega
  clear hw
  rcases hc with rfl | rfl | rfl | rfl | rfl | rfl | rfl | rfl | rfl<;>simp -implicitDefEqProofs [cw174,binD_rem,wq,ww]<;>exact goodq_sn _ _ _ _ _ _ (by omega) (rq2 (by omega))
 ·obtain ⟨w,hw⟩:∃ w,w=0+fn % (9-0+1):=⟨_,rfl⟩
  have ww:=sp174c k fn 0 9 (by omega) (by omega) (by omega) w hw
  have hc:w=0∨w=1∨w=2∨w=3∨w=4∨w=5∨w=6∨w=7∨w=8∨w=9:=by omega
  clear hw
  rcases hc with rfl | rfl | rfl | rfl | rfl | rfl | rfl | rfl | rfl | rfl<;>simp -implicitDefEqProofs [cw174,binD_rem,wq,ww]<;>exact goodq_sn _ _ _ _ _ _ (by omega) (rq3 (by omega) (by omega) (by unfold isLonger;omega))
 ·simp -implicitDefEqProofs [cw174,binD_rem,wq]
  obtain ⟨L,hL⟩:∃ L,L=tx.map fun c=>32+c % 224:=⟨_,rfl⟩
  have lL:L.length=tx.length:=by simp [hL]
  obtain ⟨M,hM⟩:∃ M,M=min tx.length 20:=⟨_,rfl⟩
  have bL:∀ n,n∈L→0≤n∧n<256:=by
   intro n hn
   rw [hL,List.mem_map] at hn
   obtain ⟨c,_,rfl⟩:=hn
   omega
  refine evB_forP (fun i=>[I i, .obx [I kd,I rn,I fn, .sl 1 (ps.map I), .sl 1 (tx.map U)], .obx [I 0,R 0,U 0,U 0,U 0, .sn,D.str []], .osl true 1 ((L.take i).map U)]) M (.exit 1)
   [I M, .obx [I kd,I rn,I fn, .sl 1 (ps.map I), .sl 1 (tx.map U)], .obx [I 0,R 0,U 0,U 0,U 0, .sn,D.str []], .osl true 1 ((L.take M).map U)] ?_ (fun i hi=>?_) ?_ (by simp) (by simp [rounds];omega) ?_
  ·simp -implicitDefEqProofs []
  ·have i1:i<tx.length:=by omega
   have i2:i<20:=by omega
   have hx:tx[i]? = some tx[i]:=List.getElem?_eq_getElem i1
   have hc:=htx tx[i] (List.getElem_mem i1)
   obtain ⟨c,hcc⟩:∃ c,c=tx[i]:=⟨_,rfl⟩
   rw [←hcc] at hx hc
   have hy:L[i]? = some (32+c % 224):=by rw [hL,List.getElem?_map,hx];rfl
   have hs:(L.take (i+1)).map U=(L.take i).map U++[U (32+c % 224)]:=by rw [take_snoc hy,List.map_append];rfl
   rw [hs]
   have lT:((L.take i).map U).length=i:=by simp;omega
   generalize (L.take i).map U=T at *
   have tT:T.take i=T:=List.take_of_length_le (by omega)
   have e3:wr ((i:Int)+1)=(i:Int)+1:=wr_id _ (by omega) (by omega)
   have e4:IntKind.i64.wrap c=c:=wrap_id _ (by omega) (by omega)
   have e5:IntKind.u8.wrap (32+c % 224)=32+c % 224:=wrap_u8 _ (by omega) (by omega)
   have w1:=sp174c k c 32 255 (by omega) (by omega) (by omega) (32+c % 224) (by omega)
   have b1:i≤140737488355327:=by omega
   have i3:(i:Int)<20:=by omega
   have hcs:tx[i]=c:=hcc.symm
   simp -implicitDefEqProofs [cw174,i1,i2,i3,hx,hcs,lT,tT,e3,e4,e5,w1,b1]
  ·by_cases h1:M<tx.length
   ·have h2:¬(M:Int)<20:=by omega
    simp -implicitDefEqProofs [h1,h2]
   ·simp -implicitDefEqProofs [h1]
  have bT:∀ n,n∈L.take M→32≤n∧n≤255:=fun n hn=>by
   have:=List.mem_of_mem_take hn
   rw [hL,List.mem_map] at this
   obtain ⟨c,_,rfl⟩:=this
   omega
  have hb:=bytesU (L.take M) (fun n hn=>by have:=bT n hn;omega)
  obtain ⟨bs,hbs⟩:∃ bs,bs=(L.take M).map fun n=>UInt8.ofNat n.toNat:=⟨_,rfl⟩
  rw [←hbs] at hb
  have hright:∀ b,b∈bs→32≤b.toNat:=by
   intro b hb
   rw [hbs,List.mem_map] at hb
   obtain ⟨n,hn,rfl⟩:=hb
   have:=bT n hn
   rw [UInt8.toNat_ofNat']
   omega
  have hlen:bs.length≤4096:=by rw [hbs,List.length_map,List.length_take];omega
  clear hbs bT
  have lT:((L.take M).map U).length=M:=by simp;omega
  generalize (L.take M).map U=T at *
  have tT:T.take M=T:=List.take_of_length_le (by omega)
  simp -implicitDefEqProofs [lT,hb,tT]
  exact goodq_sn _ _ _ _ _ _ (by omega) (rq5 hright hlen)
 ·obtain ⟨h0,h1,h2,h3⟩:¬q=0∧¬q=1∧¬q=2∧¬q=3:=by omega
  obtain ⟨w,hw⟩:∃ w,w=0+fn % (22-0+1):=⟨_,rfl⟩
  have ww:=sp174c k fn 0 22 (by omega) (by omega) (by omega) w hw
  have bw:0≤w∧w≤22:=by omega
  clear hw
  obtain ⟨c,hc⟩:=lit_get ([72,65,66,67,68,71,100,74,75,76,77,80,88,64,83,84,114,109,104,108,110,99,115]:List UInt8) w bw.1 (by simp;omega)
  have hcm:64≤(c.toNat:Int)∧(c.toNat:Int)≤126:=by
   have hm:=List.mem_of_getElem? hc
   have ha:∀ c,c∈([72,65,66,67,68,71,100,74,75,76,77,80,88,64,83,84,114,109,104,108,110,99,115]:List UInt8)→64≤c.toNat∧c.toNat≤126:=by decide
   have:=ha c hm
   omega
  simp -implicitDefEqProofs [cw174,binD_rem,wq,ww,h0,h1,h2,h3,bw,hc]
  obtain ⟨L,hL⟩:∃ L,L=ps.map fun c=> -1+c % 62:=⟨_,rfl⟩
  have lL:L.length=ps.length:=by simp [hL]
  obtain ⟨M,hM⟩:∃ M,M=min ps.length 5:=⟨_,rfl⟩
  obtain ⟨X,hX⟩:∃ X:Nat→D,X=fun i=>if i=0 then .sn else .osl true 1 ((L.take i).map I):=⟨_,rfl⟩
  have X0:X 0 = .sn:=by rw [hX];rfl
  refine evB_forP (fun i=>[I i, .obx [I kd,I rn,I fn, .sl 1 (ps.map I), .sl 1 (tx.map U)], .obx [I 0,R 0,U 0,U 0,U 0, .sn,D.str []], .obx [I 4,R 0,U 0,U 0,U c.toNat,X i,D.str []]]) M (.exit 3)
   [I M, .obx [I kd,I rn,I fn, .sl 1 (ps.map I), .sl 1 (tx.map U)], .obx [I 0,R 0,U 0,U 0,U 0, .sn,D.str []], .obx [I 4,R 0,U 0,U 0,U c.toNat,X M,D.str []]] ?_ (fun i hi=>?_) ?_ (by simp) (by simp [rounds];omega) ?_
  ·simp -implicitDefEqProofs [X0]
  ·have i1:i<ps.length:=by omega
   have i2:i<5:=by omega
   have hx:ps[i]? = some ps[i]:=List.getElem?_eq_getElem i1
   obtain ⟨v,hcc⟩:∃ v,v=ps[i]:=⟨_,rfl⟩
   rw [←hcc] at hx
   have hy:L[i]? = some (-1+v % 62):=by rw [hL,List.getElem?_map,hx];rfl
   have hs:(L.take (i+1)).map I=(L.take i).map I++[I (-1+v % 62)]:=by rw [take_snoc hy,List.map_append];rfl
   have hX1:X (i+1) = .osl true 1 ((L.take i).map I++[I (-1+v % 62)]):=by rw [hX,←hs];rfl
   have e3:wr ((i:Int)+1)=(i:Int)+1:=wr_id _ (by omega) (by omega)
   have w1:=sp174c k v (-1) 60 (by omega) (by omega) (by omega) (-1+v % 62) rfl
   have b1:i≤17592186044415:=by omega
   have b2:(i+1)*8≤140737488355328:=by omega
   by_cases hi0:i=0
   ·subst hi0
    have hX1':X 1 = .osl true 1 [I (-1+v % 62)]:=hX1
    have w0:wr 1=1:=wr_id _ (by omega) (by omega)
    have hcs:ps[0]=v:=hcc.symm
    simp -implicitDefEqProofs [cr174,X0,hX1',hx,hcs,w1,i1,w0]
   ·have i3:(i:Int)<5:=by omega
    have hcs:ps[i]=v:=hcc.symm
    have hXi:X i = .osl true 1 ((L.take i).map I):=by rw [hX];simp [hi0]
    have lT:((L.take i).map I).length=i:=by simp;omega
    generalize (L.take i).map I=T at *
    have tT:T.take i=T:=List.take_of_length_le (by omega)
    simp -implicitDefEqProofs [cr174,hXi,hX1,i1,i2,i3,hx,hcs,lT,tT,e3,w1,b1,b2]
  ·by_cases hM0:M=0
   ·have h1:¬M<ps.length:=by omega
    subst hM0
    have h1':¬0<ps.length:=h1
    simp -implicitDefEqProofs [X0,h1']
   ·have hXM:X M = .osl true 1 ((L.take M).map I):=by rw [hX];simp [hM0]
    have lT:((L.take M).map I).length=M:=by simp;omega
    generalize (L.take M).map I=T at *
    by_cases h1:M<ps.length
    ·have h2:¬(M:Int)<5:=by omega
     simp -implicitDefEqProofs [hXM,h1,h2,lT]
    ·simp -implicitDefEqProofs [hXM,h1,lT]
  by_cases hM0:M=0
  ·subst hM0
   clear hX hM lL hL htx
   simp -implicitDefEqProofs [X0]
   repeat' (split<;>try simp -implicitDefEqProofs [*])
   all_goals exact goodq_sn _ _ _ _ _ _ (by omega) (rq4n (by omega) (by first | exact hcm | omega))
  ·have hne:∃ a r,L.take M=a :: r:=by
    cases hT:L.take M with
    | nil=>have:=congrArg List.length hT;rw [List.length_take,List.length_nil] at this;omega
    | cons a r=>exact ⟨a,r,rfl⟩
   obtain ⟨a,r,har⟩:=hne
   have hXM:X M = .osl true 1 (I a :: r.map I):=by rw [hX];simp [hM0,har]
   have hbd:(∀ n,n∈a :: r→ -1≤n∧n≤60)∧(a :: r).length≤5:=by
    refine ⟨fun n hn=>?_,by rw [←har,List.length_take];omega⟩
    rw [←har] at hn
    have:=List.mem_of_mem_take hn
    rw [hL,List.mem_map] at this
    obtain ⟨c,_,rfl⟩:=this
    omega
   clear hX X0 hM lL hL htx har
   have hbd':Go.RowKit.Hid ((∀ n,n∈a :: r→ -1≤n∧n≤60)∧(a :: r).length≤5):=hbd
   clear hbd
   have tr:List.take r.length (List.map I r)=List.map I r:=List.take_of_length_le (by simp)
   simp -implicitDefEqProofs [hXM,tr]
   repeat' (split<;>try simp -implicitDefEqProofs [*])
   all_goals first | exact goodq_sn _ _ _ _ _ _ (by omega) (rq4n (by omega) (by first | exact hcm | omega)) | exact goodq_sl _ _ _ _ _ _ (a :: r) hbd'.out (by omega) (rq4s (by omega) (by first | exact hcm | omega) hbd'.out (by intro hz;injection hz with h1 h2;subst h1 h2;simp_all))
end Go.Proofs.YtlpchliomdomdaaGreat.LgTab
namespace Go.Proofs.YtlpchliomdomdaaGreat.LgTab
open Go Lg
set_option maxRecDepth 100000 in
theorem sp209_15:evFun (clOf (modsR tab 15) 3) s209 []=some (B true,[]):=by kernel_rfl
end Go.Proofs.YtlpchliomdomdaaGreat.LgTab
namespace Go.Proofs.YtlpchliomdomdaaGreat.LgTab
open Go Lg
set_option linter.unusedVariables false
set_option linter.unusedSimpArgs false
set_option maxRecDepth 8000
theorem right_gap {e:Ev} (h:RightE e):¬gap e:=by
 rintro (⟨hk,hz⟩ | ⟨hk,hz⟩ | ⟨hk,hz⟩)
 all_goals
  rcases h with ⟨h1,h2,h3,h4,_⟩ | ⟨h1,h2,h3,h4,_⟩ | ⟨h1,h2,h3,h4,_⟩ | ⟨h1,h2,h3,h4,_⟩ | ⟨h1,h2,h3,h4,_⟩
  all_goals omega
theorem small_ok {s:Sc} (o:OkS s) (b:Int):OkS (smallS s b):=by
 unfold smallS
 split
 ·exact backS_ok o
 split
 ·exact o
 ·exact doS_ok o _
theorem small_right {s:Sc} (o:OkS s) (r:RightS s) (b:Int):RightS (smallS s b):=by
 unfold smallS
 split
 ·exact back_right o r
 split
 ·exact r
 ·exact doS_right o r _
theorem tdo_ok {d:Int} {s:Sc} (o:OkS s) (e:Ev):OkS (tdoS d s e):=by
 unfold tdoS
 repeat' split
 ·exact o
 ·exact small_ok o _
 ·exact doS_ok o _
 ·exact o
 ·exact doS_ok o _
theorem tdo_right {d:Int} {s:Sc} (o:OkS s) (r:RightS s) (e:Ev):RightS (tdoS d s e):=by
 unfold tdoS
 repeat' split
 ·exact r
 ·exact small_right o r _
 ·exact doS_right o r _
 ·exact r
 ·exact doS_right o r _
set_option maxHeartbeats 8000000 in
theorem sp205 (k:Nat) (d0:Int) (a b:Int) (rs ps:List Int) (hr:rs.length≤9223372036854775807) (hp:ps.length≤9223372036854775807) (kr kc kt kb kf p1 p2 p3:Int) (tabs:Nat) (ht:tabs<2 ^ 64)
  (kd rn fn:Int) (es tx:List Int) (htx:∀ c,c∈tx→0≤c∧c≤255) (w209:evFun (clOf (modsR tab (k+14)) 3) s209 []=some (B true,[])) :
  evFun (clOf (modsR tab (k+15)) 3) s205 [I d0, .agg [I a,I b, .sl 1 (intsD rs), .sl 1 (intsD ps),I kr,I kc,I kt,I kb,I kf,I p1,I p2,I p3,T64 tabs], .agg [I kd,I rn,I fn, .sl 1 (intsD es), .sl 1 (tx.map U)]]=some (B true,[]):=by
 obtain ⟨s,w66,o,r,h5,w9⟩:=sp66 (k+10) a b rs ps hr hp kr kc kt kb kf p1 p2 p3 tabs ht
 obtain ⟨d,hd⟩:∃ d,d=1+d0 % (3-1+1):=⟨_,rfl⟩
 have wd:=fun q=>sp174c q d0 1 3 (by omega) (by omega) (by omega) d hd
 have bd:d=1∨d=2∨d=3:=by omega
 clear hd
 obtain ⟨e,w63,hq,he1,he2,he3⟩:=sp63q (k+13) kd rn fn es tx htx
 have v1:=fun q=>sp423g q d s o e (by omega)
 have v2:=fun q=>sp258 q d bd s o r e (by omega) (fun n hn=>by have:=he1 n hn;omega) (by omega) (right_gap hq)
 have ot:=tdo_ok (d:=d) o e
 have rt:=tdo_right (d:=d) o r e
 have v3:=fun q=>sp177 q (tdoS d s e) (by have:=ot.len;omega)
 have v4:=fun q=>sp373 q _ ot rt
 have hes:intsD es=es.map I:=rfl
 rw [hes]
 clear hes hr hp ht he1 he2 he3 hq ot rt
 generalize tdoS d s e=T at *
 obtain ⟨xk,xr,xp,xi,xf,xs,xt⟩:=e
 rw [evFun_evB rfl]
 unfold s205
 simp -implicitDefEqProofs [cw66,w66,cw174,cr174,wd,cw63,cr63,w63,cw423,cr423,v1,cw258,cr258,v2,cw177,cr177,v3,cw373,cr373,v4,cw209,cr209,w209]
end Go.Proofs.YtlpchliomdomdaaGreat.LgTab
