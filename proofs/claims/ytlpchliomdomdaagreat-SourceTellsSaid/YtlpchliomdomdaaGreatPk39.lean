import Derived.Test.YtlpchliomdomdaaGreatPk15
import Derived.Test.YtlpchliomdomdaaGreatPk38
import Derived.Test.YtlpchliomdomdaaGreatPk22
namespace Go.Proofs.YtlpchliomdomdaaGreat.LgTab
open Go Lg
set_option linter.unusedVariables false
set_option linter.unusedSimpArgs false
set_option maxRecDepth 8000
@[simp high] theorem par_len (o:Option (List Int)):lenD (parD o)=some (o.getD []).length:=by cases o<;>simp [parD,lenD]
@[simp high] theorem par_sl (o:Option (List Int)) (H:List Ob):∃ n,slD H (parD o)=some (n,intsD (o.getD [])):=by cases o<;>simp [parD,slD]
def inL (l:List UInt8) (c:Int):Bool:=l.any fun b=>decide ((b.toNat:Int)=c)
theorem inL_take (l:List UInt8) (c:Int) (i:Nat) (b:UInt8) (h:l[i]? = some b):inL (l.take (i+1)) c=(inL (l.take i) c || decide ((b.toNat:Int)=c)):=by
 unfold inL
 rw [take_snoc h,List.any_append]
 simp
theorem sp254 (k:Nat) (l:List UInt8) (c:Int) (hl:l.length≤1000):evFun (clOf (modsR tab k) 3) s254 [S l,U c]=some (B (inL l c),[]):=by
 rw [evFun_evB rfl]
 unfold s254
 simp -implicitDefEqProofs []
 refine evB_inv (P:=fun o=>o=some (B (inL l c),[])) (σ:=Nat) (fun i=>[S l,U c,B false,I i]) (fun i=>l.length-i) (fun i=>i≤l.length∧inL (l.take i) c=false)
  (fun ex t=>(ex = .exit 0∧t=[S l,U c,B false,I l.length]∧inL l c=false)∨(ex = .ret∧∃ i:Nat,t=[S l,U c,B true,I i]∧inL l c=true)) 0 ?_ ⟨by omega,by simp [inL]⟩ (by simp [rounds];omega) ?_ ?_
 ·simp -implicitDefEqProofs []
 ·rintro i ⟨hi,hn⟩
  by_cases h1:i<l.length
  ·have hlt:(i:Int)<l.length:=by omega
   obtain ⟨b,hb⟩:=get_ex h1
   have hg:=get_of hb
   have ht:=inL_take l c i b hb
   by_cases h2:(b.toNat:Int)=c
   ·right
    have hin:inL l c=true:=by
     unfold inL
     rw [List.any_eq_true]
     exact ⟨b,List.mem_of_getElem? hb,by simpa using h2⟩
    exact ⟨.ret,[S l,U c,B true,I i],by simp -implicitDefEqProofs [hlt,h1,hb,hg,h2],by simp, .inr ⟨rfl,i,rfl,hin⟩⟩
   ·left
    refine ⟨i+1,by simp -implicitDefEqProofs [hlt,h1,hb,hg,h2,wr_id ((i:Int)+1) (by omega) (by omega)],by omega,by omega,by rw [ht,hn];simp [h2]⟩
  ·right
   have hlt:¬(i:Int)<l.length:=by omega
   have e:i=l.length:=by omega
   subst e
   exact ⟨.exit 0,[S l,U c,B false,I l.length],by simp -implicitDefEqProofs [],by simp, .inl ⟨rfl,rfl,by rw [List.take_length] at hn;exact hn⟩⟩
 ·rintro ex t (⟨rfl,rfl,h⟩ | ⟨rfl,i,rfl,h⟩)
  ·rw [h]
   simp -implicitDefEqProofs []
  ·rw [h]
   simp -implicitDefEqProofs []
theorem sp252 (k:Nat) (c:Int):evFun (clOf (modsR tab k) 3) s252 [U c]=some (B (decide (c=0∨32≤c∧c≤47)),[]):=by
 rw [evFun_evB rfl]
 unfold s252
 by_cases h:c=0
 ·subst h;simp -implicitDefEqProofs []
 ·by_cases h1:32≤c
  ·by_cases h2:c<48
   ·have h3:c≤47:=by omega
    simp -implicitDefEqProofs [h,h1,h2,h3]
   ·have h3:¬c≤47:=by omega
    simp -implicitDefEqProofs [h,h1,h2,h3]
  ·simp -implicitDefEqProofs [h,h1]
def BoolP (o:Option (D×List D)) (P:Prop):Prop:=∃ b,o=some (B b,[])∧(b=true→P)
theorem boolP {b:Bool} {P:Prop} (h:b=true→P):BoolP (some (B b,[])) P:=⟨b,rfl,h⟩
def parsOk (l:List Int):Prop:=∀ n,n∈l→ -1≤n∧n≤65535
theorem parsOk_nil:parsOk []:=by intro n h;cases h
theorem binS_neq (a b:List UInt8):binD .neq (S a) (S b)=some (B (!decide (a=b))):=by
 simp [binD,binS]
 by_cases h:a=b<;>simp [h]
set_option maxHeartbeats 1000000 in
theorem sp250_4 (k:Nat) (r pr it fi:Int) (l:List Int) (tx:List UInt8) (hl:l.length≤1000):BoolP (evFun (clOf (modsR tab (k+1)) 3) s250 [.agg [I 4,R r,U pr,U it,U fi, .sl 1 (intsD l),S tx]]) (parsOk l):=by
 have w1:=fun q=>sp252 q it
 have w2:=fun q=>sp254 q [60,61,62,63] pr (by simp)
 rw [evFun_evB rfl]
 unfold s250
 by_cases hr:r=0
 ·subst hr
  by_cases ht:tx=[]
  ·subst ht
   simp -implicitDefEqProofs [binS_neq]
   refine evB_inv (P:=fun o=>BoolP o (parsOk l)) (σ:=Nat) (fun i=>[B false, .sl 1 (intsD l),I l.length,I i, .obx [I 4,R 0,U pr,U it,U fi, .sl 1 (intsD l),S []]]) (fun i=>l.length-i) (fun i=>i≤l.length∧parsOk (l.take i))
    (fun ex t=>(ex = .exit 1∧t=[B false, .sl 1 (intsD l),I l.length,I l.length, .obx [I 4,R 0,U pr,U it,U fi, .sl 1 (intsD l),S []]]∧parsOk l)∨(ex = .ret∧∃ i:Nat,t=[B false, .sl 1 (intsD l),I l.length,I i, .obx [I 4,R 0,U pr,U it,U fi, .sl 1 (intsD l),S []]])) 0 ?_ ⟨by omega,parsOk_nil⟩ (by simp [rounds];omega) ?_ ?_
   ·simp -implicitDefEqProofs []
   ·rintro i ⟨hi,hn⟩
    by_cases h1:i<l.length
    ·have hlt:(i:Int)<l.length:=by omega
     obtain ⟨x,hx⟩:=get_ex h1
     have g:=intsD_getD hx
     have g':=intsD_at hx
     by_cases h2:x < -1
     ·right
      exact ⟨.ret,[B false, .sl 1 (intsD l),I l.length,I i, .obx [I 4,R 0,U pr,U it,U fi, .sl 1 (intsD l),S []]],by simp -implicitDefEqProofs [hlt,h1,g,g',h2],by simp, .inr ⟨rfl,i,rfl⟩⟩
     ·by_cases h3:65535<x
      ·right
       exact ⟨.ret,[B false, .sl 1 (intsD l),I l.length,I i, .obx [I 4,R 0,U pr,U it,U fi, .sl 1 (intsD l),S []]],by simp -implicitDefEqProofs [hlt,h1,g,g',h2,h3],by simp, .inr ⟨rfl,i,rfl⟩⟩
      ·left
       refine ⟨i+1,by simp -implicitDefEqProofs [hlt,h1,g,g',h2,h3,wr_id ((i:Int)+1) (by omega) (by omega)],by omega,by omega,?_⟩
       rw [take_snoc hx]
       intro n hn'
       rw [List.mem_append] at hn'
       rcases hn' with h | h
       ·exact hn n h
       ·simp at h;omega
    ·right
     have hlt:¬(i:Int)<l.length:=by omega
     have e:i=l.length:=by omega
     subst e
     exact ⟨.exit 1,[B false, .sl 1 (intsD l),I l.length,I l.length, .obx [I 4,R 0,U pr,U it,U fi, .sl 1 (intsD l),S []]],by simp -implicitDefEqProofs [hlt],by simp, .inl ⟨rfl,rfl,by rw [List.take_length] at hn;exact hn⟩⟩
   ·rintro ex t (⟨rfl,rfl,h⟩ | ⟨rfl,i,rfl⟩)
    ·by_cases c1:it=0∨32≤it∧it≤47
     ·by_cases c2:64≤fi
      ·by_cases c3:fi<127
       ·cases c5:(decide (pr=0) || inL [60,61,62,63] pr) with
        | true =>
         rw [Bool.or_eq_true,decide_eq_true_eq] at c5
         by_cases c6:(l.length:Int)≤16
         ·by_cases c8:l.length=1
          ·obtain ⟨x,rfl⟩:=List.length_eq_one_iff.1 c8
           by_cases c4:pr=0
           ·simp -implicitDefEqProofs [cw252,cr252,w1,eq_true c1,c2,c3,eq_true c4,intsD]
            exact boolP (fun _=>h)
           ·have c7:=c5.resolve_left c4
            simp -implicitDefEqProofs [cw252,cr252,w1,eq_true c1,c2,c3,c4,cw254,cr254,w2,c7,intsD]
            exact boolP (fun _=>h)
          ·have c8':¬(l.length:Int)=1:=by omega
           by_cases c4:pr=0
           ·simp -implicitDefEqProofs [cw252,cr252,w1,eq_true c1,c2,c3,eq_true c4,c6,c8,c8']
            exact boolP (fun _=>h)
           ·have c7:=c5.resolve_left c4
            simp -implicitDefEqProofs [cw252,cr252,w1,eq_true c1,c2,c3,c4,cw254,cr254,w2,c7,c6,c8,c8']
            exact boolP (fun _=>h)
         ·by_cases c4:pr=0
          ·simp -implicitDefEqProofs [cw252,cr252,w1,eq_true c1,c2,c3,eq_true c4,c6]
           exact boolP (fun _=>h)
          ·have c7:=c5.resolve_left c4
           simp -implicitDefEqProofs [cw252,cr252,w1,eq_true c1,c2,c3,c4,cw254,cr254,w2,c7,c6]
           exact boolP (fun _=>h)
        | false =>
         rw [Bool.or_eq_false_iff,decide_eq_false_iff_not] at c5
         simp -implicitDefEqProofs [cw252,cr252,w1,eq_true c1,c2,c3,c5.1,cw254,cr254,w2,c5.2]
         exact boolP (fun _=>h)
       ·simp -implicitDefEqProofs [cw252,cr252,w1,eq_true c1,c2,c3]
        exact boolP (fun _=>h)
      ·simp -implicitDefEqProofs [cw252,cr252,w1,eq_true c1,c2]
       exact boolP (fun _=>h)
     ·simp -implicitDefEqProofs [cw252,cr252,w1,eq_false c1]
      exact boolP (fun _=>h)
    ·simp -implicitDefEqProofs []
     exact boolP (fun h=>by cases h)
  ·simp -implicitDefEqProofs [binS_neq,ht]
   exact boolP (fun h=>by cases h)
 ·simp -implicitDefEqProofs [hr]
  exact boolP (fun h=>by cases h)
set_option maxHeartbeats 4000000 in
theorem sp250_1 (k:Nat) (r pr it fi:Int) (tx:List UInt8) (hr : -2147483648≤r∧r≤2147483647):BoolP (evFun (clOf (modsR tab (k+1)) 3) s250 [.agg [I 1,R r,U pr,U it,U fi, .sl 1 (intsD []),S tx]]) (parsOk []):=by
 have e1:IntKind.i64.wrap r=r:=wrap_id _ (by omega) (by omega)
 rw [evFun_evB rfl]
 unfold s250
 by_cases hp:pr=0
 ·subst hp
  by_cases hi:it=0
  ·subst hi
   by_cases ht:tx=[]
   ·subst ht
    by_cases hf:fi=0
    ·subst hf
     by_cases a:32≤r
     ·skip
      by_cases b:r<127
      ·skip
       simp -implicitDefEqProofs [binS_neq,e1,eq_true a,eq_true b]
       exact boolP (fun _=>parsOk_nil)
      ·skip
       by_cases c:128≤r
       ·skip
        by_cases d:r≤1114111
        ·skip
         by_cases f:r<55296
         ·skip
          simp -implicitDefEqProofs [binS_neq,e1,eq_true a,eq_false b,eq_true c,eq_true d,eq_true f]
          exact boolP (fun _=>parsOk_nil)
         ·skip
          by_cases g:57343<r
          ·skip
           simp -implicitDefEqProofs [binS_neq,e1,eq_true a,eq_false b,eq_true c,eq_true d,eq_false f,eq_true g]
           exact boolP (fun _=>parsOk_nil)
          ·skip
           simp -implicitDefEqProofs [binS_neq,e1,eq_true a,eq_false b,eq_true c,eq_true d,eq_false f,eq_false g]
           exact boolP (fun _=>parsOk_nil)
        ·skip
         simp -implicitDefEqProofs [binS_neq,e1,eq_true a,eq_false b,eq_true c,eq_false d]
         exact boolP (fun _=>parsOk_nil)
       ·skip
        simp -implicitDefEqProofs [binS_neq,e1,eq_true a,eq_false b,eq_false c]
        exact boolP (fun _=>parsOk_nil)
     ·skip
      have c:¬128≤r:=by omega
      simp -implicitDefEqProofs [binS_neq,e1,eq_false a,eq_false c]
      exact boolP (fun _=>parsOk_nil)
    ·skip
     simp -implicitDefEqProofs [binS_neq,e1,hf]
     exact boolP (fun _=>parsOk_nil)
   ·skip
    simp -implicitDefEqProofs [binS_neq,e1,ht]
    exact boolP (fun _=>parsOk_nil)
  ·skip
   simp -implicitDefEqProofs [binS_neq,e1,hi]
   exact boolP (fun _=>parsOk_nil)
 ·skip
  simp -implicitDefEqProofs [binS_neq,e1,hp]
  exact boolP (fun _=>parsOk_nil)
set_option maxHeartbeats 4000000 in
theorem sp250_2 (k:Nat) (r pr it fi:Int) (tx:List UInt8):BoolP (evFun (clOf (modsR tab (k+1)) 3) s250 [.agg [I 2,R r,U pr,U it,U fi, .sl 1 (intsD []),S tx]]) (parsOk []):=by
 rw [evFun_evB rfl]
 unfold s250
 by_cases hr:r=0
 ·subst hr
  by_cases hp:pr=0
  ·subst hp
   by_cases hi:it=0
   ·subst hi
    by_cases ht:tx=[]
    ·subst ht
     by_cases a:fi<32
     ·skip
      by_cases b:fi=24
      ·subst b
       simp -implicitDefEqProofs [binS_neq,eq_true a]
       exact boolP (fun _=>parsOk_nil)
      ·skip
       by_cases c:fi=26
       ·subst c
        simp -implicitDefEqProofs [binS_neq,eq_true a,b]
        exact boolP (fun _=>parsOk_nil)
       ·skip
        by_cases d:fi=27
        ·subst d
         simp -implicitDefEqProofs [binS_neq,eq_true a,b,c]
         exact boolP (fun _=>parsOk_nil)
        ·skip
         simp -implicitDefEqProofs [binS_neq,eq_true a,b,c,d]
         exact boolP (fun _=>parsOk_nil)
     ·skip
      simp -implicitDefEqProofs [binS_neq,eq_false a]
      exact boolP (fun _=>parsOk_nil)
    ·skip
     simp -implicitDefEqProofs [binS_neq,ht]
     exact boolP (fun _=>parsOk_nil)
   ·skip
    simp -implicitDefEqProofs [binS_neq,hi]
    exact boolP (fun _=>parsOk_nil)
  ·skip
   simp -implicitDefEqProofs [binS_neq,hp]
   exact boolP (fun _=>parsOk_nil)
 ·skip
  simp -implicitDefEqProofs [binS_neq,hr]
  exact boolP (fun _=>parsOk_nil)
set_option maxHeartbeats 4000000 in
theorem sp250_3 (k:Nat) (r pr it fi:Int) (tx:List UInt8):BoolP (evFun (clOf (modsR tab (k+1)) 3) s250 [.agg [I 3,R r,U pr,U it,U fi, .sl 1 (intsD []),S tx]]) (parsOk []):=by
 have w1:=fun q=>sp252 q it
 have w2:=fun q=>sp254 q [91,93,80,88,94,95] fi (by simp)
 rw [evFun_evB rfl]
 unfold s250
 by_cases hr:r=0
 ·subst hr
  by_cases hp:pr=0
  ·subst hp
   by_cases ht:tx=[]
   ·subst ht
    by_cases a:it=0∨32≤it∧it≤47
    ·skip
     simp only [decide_eq_true a] at w1
     by_cases b:48≤fi
     ·skip
      by_cases c:fi<127
      ·skip
       by_cases z:it=0
       ·subst z
        simp -implicitDefEqProofs [binS_neq,cw252,cr252,w1,cw254,cr254,w2,cw252,cr252,w1,eq_true b,eq_true c]
        exact boolP (fun _=>parsOk_nil)
       ·simp -implicitDefEqProofs [binS_neq,cw252,cr252,w1,z,cw252,cr252,w1,eq_true b,eq_true c]
        exact boolP (fun _=>parsOk_nil)
      ·skip
       simp -implicitDefEqProofs [binS_neq,cw252,cr252,w1,eq_true b,eq_false c]
       exact boolP (fun _=>parsOk_nil)
     ·skip
      simp -implicitDefEqProofs [binS_neq,cw252,cr252,w1,eq_false b]
      exact boolP (fun _=>parsOk_nil)
    ·skip
     simp only [decide_eq_false a] at w1
     simp -implicitDefEqProofs [binS_neq,cw252,cr252,w1]
     exact boolP (fun _=>parsOk_nil)
   ·skip
    simp -implicitDefEqProofs [binS_neq,cw252,cr252,w1,ht]
    exact boolP (fun _=>parsOk_nil)
  ·skip
   simp -implicitDefEqProofs [binS_neq,cw252,cr252,w1,hp]
   exact boolP (fun _=>parsOk_nil)
 ·skip
  simp -implicitDefEqProofs [binS_neq,cw252,cr252,w1,hr]
  exact boolP (fun _=>parsOk_nil)
set_option maxHeartbeats 4000000 in
theorem sp250_5 (k:Nat) (r pr it fi:Int) (tx:List UInt8) (hx:tx.length≤9223372036854775807):BoolP (evFun (clOf (modsR tab (k+1)) 3) s250 [.agg [I 5,R r,U pr,U it,U fi, .sl 1 (intsD []),S tx]]) (parsOk []):=by
 rw [evFun_evB rfl]
 unfold s250
 by_cases hr:r=0
 ·subst hr
  by_cases hp:pr=0
  ·subst hp
   by_cases hi:it=0
   ·subst hi
    by_cases hf:fi=0
    ·subst hf
     simp -implicitDefEqProofs [binS_neq]
     refine evB_inv (P:=fun o=>BoolP o (parsOk [])) (σ:=Nat) (fun i=>[B false,I i, .obx [I 5,R 0,U 0,U 0,U 0, .sl 1 [],S tx]]) (fun i=>tx.length-i) (fun i=>i≤tx.length)
      (fun ex t=>(ex = .exit 3∨ex = .ret)∧∃ i:Nat,t=[B false,I i, .obx [I 5,R 0,U 0,U 0,U 0, .sl 1 [],S tx]]) 0 ?_ (by omega) (by simp [rounds];omega) ?_ ?_
     ·simp -implicitDefEqProofs []
     ·rintro i hi
      by_cases h1:i<tx.length
      ·have hlt:(i:Int)<tx.length:=by omega
       obtain ⟨b,hb⟩:=get_ex h1
       have hg:=get_of hb
       by_cases h2:(b.toNat:Int)<32
       ·right
        exact ⟨.ret,[B false,I i, .obx [I 5,R 0,U 0,U 0,U 0, .sl 1 [],S tx]],by simp -implicitDefEqProofs [hlt,h1,hb,hg,h2],by simp, .inr rfl,i,rfl⟩
       ·left
        exact ⟨i+1,by simp -implicitDefEqProofs [hlt,h1,hb,hg,h2,wr_id ((i:Int)+1) (by omega) (by omega)],by omega,by omega⟩
      ·right
       have hlt:¬(i:Int)<tx.length:=by omega
       have e:i=tx.length:=by omega
       subst e
       exact ⟨.exit 3,[B false,I tx.length, .obx [I 5,R 0,U 0,U 0,U 0, .sl 1 [],S tx]],by simp -implicitDefEqProofs [hlt],by simp, .inl rfl,tx.length,rfl⟩
     ·rintro ex t ⟨rfl | rfl,i,rfl⟩
      ·simp -implicitDefEqProofs []
       exact boolP (fun _=>parsOk_nil)
      ·simp -implicitDefEqProofs []
       exact boolP (fun _=>parsOk_nil)
    ·skip
     simp -implicitDefEqProofs [binS_neq,hf]
     exact boolP (fun _=>parsOk_nil)
   ·skip
    simp -implicitDefEqProofs [binS_neq,hi]
    exact boolP (fun _=>parsOk_nil)
  ·skip
   simp -implicitDefEqProofs [binS_neq,hp]
   exact boolP (fun _=>parsOk_nil)
 ·skip
  simp -implicitDefEqProofs [binS_neq,hr]
  exact boolP (fun _=>parsOk_nil)
set_option maxHeartbeats 4000000 in
theorem sp250_0 (k:Nat) (ek r pr it fi:Int) (tx:List UInt8) (c1:ek≠1) (c2:ek≠2) (c3:ek≠3) (c4:ek≠4) (c5:ek≠5):BoolP (evFun (clOf (modsR tab (k+1)) 3) s250 [.agg [I ek,R r,U pr,U it,U fi, .sl 1 (intsD []),S tx]]) (parsOk []):=by
 rw [evFun_evB rfl]
 unfold s250
 by_cases hr:r=0
 ·subst hr
  by_cases hp:pr=0
  ·subst hp
   by_cases hi:it=0
   ·subst hi
    by_cases ht:tx=[]
    ·subst ht
     simp -implicitDefEqProofs [binS_neq,c1,c2,c3,c4,c5]
     exact boolP (fun _=>parsOk_nil)
    ·skip
     simp -implicitDefEqProofs [binS_neq,c1,c2,c3,c4,c5,ht]
     exact boolP (fun _=>parsOk_nil)
   ·skip
    simp -implicitDefEqProofs [binS_neq,c1,c2,c3,c4,c5,hi]
    exact boolP (fun _=>parsOk_nil)
  ·skip
   simp -implicitDefEqProofs [binS_neq,c1,c2,c3,c4,c5,hp]
   exact boolP (fun _=>parsOk_nil)
 ·skip
  simp -implicitDefEqProofs [binS_neq,c1,c2,c3,c4,c5,hr]
  exact boolP (fun _=>parsOk_nil)
set_option maxHeartbeats 4000000 in
theorem sp250_l (k:Nat) (ek r pr it fi:Int) (l:List Int) (tx:List UInt8) (h:l≠[]) (h4:ek≠4):BoolP (evFun (clOf (modsR tab (k+1)) 3) s250 [.agg [I ek,R r,U pr,U it,U fi, .sl 1 (intsD l),S tx]]) (parsOk l):=by
 have hl:0<l.length:=List.length_pos_iff.2 h
 rw [evFun_evB rfl]
 unfold s250
 by_cases c1:ek=1
 ·by_cases c2:pr=0
  ·simp -implicitDefEqProofs [h4,c1,c2,hl]
   exact boolP (fun h=>by cases h)
  ·simp -implicitDefEqProofs [h4,c1,c2]
   exact boolP (fun h=>by cases h)
 ·by_cases c3:r=0
  ·by_cases c2:pr=0
   ·simp -implicitDefEqProofs [h4,c1,c2,c3,hl]
    exact boolP (fun h=>by cases h)
   ·simp -implicitDefEqProofs [h4,c1,c2,c3]
    exact boolP (fun h=>by cases h)
  ·simp -implicitDefEqProofs [h4,c1,c3]
   exact boolP (fun h=>by cases h)
theorem sp250 (k:Nat) (ek r pr it fi:Int) (l:List Int) (tx:List UInt8) (hr : -2147483648≤r∧r≤2147483647) (hl:l.length≤1000) (hx:tx.length≤9223372036854775807):BoolP (evFun (clOf (modsR tab (k+1)) 3) s250 [.agg [I ek,R r,U pr,U it,U fi, .sl 1 (intsD l),S tx]]) (parsOk l):=by
 by_cases c4:ek=4
 ·subst c4;exact sp250_4 k r pr it fi l tx hl
 by_cases h:l=[]
 ·subst h
  by_cases c1:ek=1
  ·subst c1;exact sp250_1 k r pr it fi tx hr
  by_cases c2:ek=2
  ·subst c2;exact sp250_2 k r pr it fi tx
  by_cases c3:ek=3
  ·subst c3;exact sp250_3 k r pr it fi tx
  by_cases c5:ek=5
  ·subst c5;exact sp250_5 k r pr it fi tx hx
  exact sp250_0 k ek r pr it fi tx c1 c2 c3 c4 c5
 ·exact sp250_l k ek r pr it fi l tx h c4
end Go.Proofs.YtlpchliomdomdaaGreat.LgTab
namespace Go.Proofs.YtlpchliomdomdaaGreat.LgTab
open Go Lg
set_option linter.unusedVariables false
set_option linter.unusedSimpArgs false
set_option maxRecDepth 8000
set_option maxHeartbeats 8000000 in
theorem sp195 (k:Nat) (a b:Int) (rs ps:List Int) (hr:rs.length≤9223372036854775807) (hp:ps.length≤9223372036854775807) (kr kc kt kb kf p1 p2 p3:Int) (tabs:Nat) (ht:tabs<2 ^ 64)
  (kd rn fn:Int) (es tx:List Int) (htx:∀ c,c∈tx→0≤c∧c≤255) (ek er ep ei ef:Int) (l:List Int) (et:List UInt8) (her : -2147483648≤er∧er≤2147483647) (het:et.length≤9223372036854775807) (own:Bool) :
  evFun (clOf (modsR tab (k+12)) 3) s195 [.agg [I a,I b, .sl 1 (intsD rs), .sl 1 (intsD ps),I kr,I kc,I kt,I kb,I kf,I p1,I p2,I p3,T64 tabs], .agg [I kd,I rn,I fn, .sl 1 (intsD es), .sl 1 (tx.map U)], .agg [I ek,R er,U ep,U ei,U ef, .sl 1 (intsD l),S et],B own]=some (B true,[]):=by
 obtain ⟨s,w66,o,r,h5,w9⟩:=sp66 (k+7) a b rs ps hr hp kr kc kt kb kf p1 p2 p3 tabs ht
 obtain ⟨m,hm⟩:∃ m,m=min l.length 16:=⟨_,rfl⟩
 have hmn:mnI (l.length:Int) 16=(m:Int):=by unfold mnI;split<;>omega
 have hm1:m≤l.length:=by omega
 have hm2:m≤16:=by omega
 obtain ⟨P,hP⟩:∃ P,P=l.take m:=⟨_,rfl⟩
 have lP:P.length=m:=by rw [hP,List.length_take];omega
 have tP:P.take m=P:=List.take_of_length_le (by omega)
 have b2:m*8≤140737488355328:=by omega
 obtain ⟨b0,w250,hb0⟩:=sp250 (k+10) ek er ep ei ef P et her (by omega) het
 obtain ⟨e,w63,he1,he2,he3⟩:=sp63r (k+10) kd rn fn es tx htx
 have key:∀ x:Ev,(-2147483648≤x.r∧x.r≤2147483647)→parOk x→x.par.length≤16→∃ T:Sc,(∀ q,evFun (clOf (modsR tab (q+8)) 3) s400 [scD s,evD x]=some (scD T,[]))∧(∀ q,evFun (clOf (modsR tab (q+5)) 3) s284 [scD s,evD x]=some (scD T,[]))∧(∀ q,evFun (clOf (modsR tab (q+1)) 3) s177 [scD T,scD T]=some (B true,[]))∧(∀ q,evFun (clOf (modsR tab (q+5)) 3) s373 [scD T]=some (B true,[])):=by
  intro x h1 h2 h3
  have ot:=doS_ok o x
  have rt:=doS_right o r x
  exact ⟨doS s x,fun q=>sp400 q s o x (by omega),fun q=>sp284 q s o r x h1 h2 (by omega),fun q=>sp177 q _ (by have:=ot.len;omega),fun q=>sp373 q _ ot rt⟩
 have w177:=fun q=>sp177 q s (by have:=o.len;omega)
 have w370:=fun q=>sp370 q s o.g (by have:=o.len;omega)
 have w193:=fun q=>sp193 q
 have sv:doS s e=doS s e:=rfl
 have hes:intsD es=es.map I:=rfl
 rw [hes]
 clear hes sv
 clear hr hp ht
 cases own with
 | true =>
  obtain ⟨T,v1,v2,v3,v4⟩:=key e (by omega) (fun n hn=>by have:=he1 n hn;omega) (by omega)
  clear key he1 he2 he3
  obtain ⟨xk,xr,xp,xi,xf,xs,xt⟩:=e
  rw [evFun_evB rfl]
  unfold s195
  simp -implicitDefEqProofs [cw66,w66,hmn,hm1,←hP,lP,tP,b2,cw63,cr63,w63,cw370,cr370,w370,cw400,cr400,v1,cw284,cr284,v2,cw177,cr177,v3,w177,cw373,cr373,v4,cw193,cr193,w193]
 | false =>
  cases b0 with
  | false =>
   obtain ⟨T,v1,v2,v3,v4⟩:=key e (by omega) (fun n hn=>by have:=he1 n hn;omega) (by omega)
   clear key he1 he2 he3 hb0
   obtain ⟨xk,xr,xp,xi,xf,xs,xt⟩:=e
   rw [evFun_evB rfl]
   unfold s195
   simp -implicitDefEqProofs [cw66,w66,hmn,hm1,←hP,lP,tP,b2,cw250,cr250,w250,cw63,cr63,w63,cw370,cr370,w370,cw400,cr400,v1,cw284,cr284,v2,cw177,cr177,v3,w177,cw373,cr373,v4,cw193,cr193,w193]
  | true =>
   obtain ⟨T,v1,v2,v3,v4⟩:=key ⟨ek,er,ep,ei,ef,some P,et⟩ her (hb0 rfl) (by show P.length≤16;omega)
   clear key he1 he2 he3 hb0 w63
   simp only [evD,evL,parD] at v1 v2
   rw [evFun_evB rfl]
   unfold s195
   simp -implicitDefEqProofs [cw66,w66,hmn,hm1,←hP,lP,tP,b2,cw250,cr250,w250,cw370,cr370,w370,cw400,cr400,v1,cw284,cr284,v2,cw177,cr177,v3,w177,cw373,cr373,v4,cw193,cr193,w193]
end Go.Proofs.YtlpchliomdomdaaGreat.LgTab
