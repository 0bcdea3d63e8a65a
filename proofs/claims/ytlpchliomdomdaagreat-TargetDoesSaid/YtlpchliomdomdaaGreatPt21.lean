import Derived.Test.YtlpchliomdomdaaGreatPt20
import Derived.Test.YtlpchliomdomdaaGreatPt5
import Derived.Test.YtlpchliomdomdaaGreatPt14
import Derived.Test.YtlpchliomdomdaaGreatPt18
namespace Go.Proofs.YtlpchliomdomdaaGreat.LgTab
open Go Lg
set_option linter.unusedVariables false
set_option linter.unusedSimpArgs false
set_option maxRecDepth 8000
set_option maxHeartbeats 8000000 in
theorem sp423g (k:Nat) (d:Int) (s:Sc) (o:OkS s) (e:Ev) (hl:e.par.length≤100000):evFun (clOf (modsR tab (k+10)) 3) s423 [I d,scD s,evD e]=some (scD (tdoS d s e),[]):=by
 have w1:=fun q=>sp370 q s o.g (by have:=o.len;omega)
 have w2:=fun q=>sp132g q d e
 have w3:=fun q=>sp429g q s o e.fi
 have w4:=fun q=>sp400 q s o e hl
 have w5:=fun q n=>sp425 q d e n
 have w6:=fun q=>sp400 q s o {e with ps:=some (e.par.filter (countsB d e))} (by show (e.par.filter (countsB d e)).length≤100000;exact Nat.le_trans (List.length_filter_le _ _) hl)
 unfold tdoS
 by_cases c1:knowsM d e=false
 ·rw [if_pos c1,evFun_evB rfl]
  unfold s423
  simp -implicitDefEqProofs [cw370,cr370,w1,cw132,cr132,w2,c1]
 rw [if_neg c1]
 rw [Bool.not_eq_false] at c1
 by_cases c2:d=3∧e.k=3
 ·rw [if_pos c2]
  clear w4 w5 w6
  obtain ⟨ek,er,ep,ei,ef,ps,et⟩:=e
  obtain ⟨h1,h2⟩:=c2
  simp only at h2
  subst h1 h2
  generalize smallS s ef=S' at *
  rw [evFun_evB rfl]
  unfold s423
  simp -implicitDefEqProofs [cw370,cr370,w1,cw132,cr132,w2,c1,cw429,cr429,w3]
 rw [if_neg c2]
 by_cases c3:e.par=[]
 ·rw [if_pos c3]
  generalize doS s e=S' at *
  obtain ⟨ek,er,ep,ei,ef,ps,et⟩:=e
  rw [evFun_evB rfl]
  unfold s423
  cases ps with
  | none =>
   simp only [evD,evL,parD] at w2 w4 ⊢
   clear w3 w5 w6
   by_cases c4:d=3
   ·have c5:¬ek=3:=fun h=>c2 ⟨c4,h⟩
    subst c4
    simp -implicitDefEqProofs [cw370,cr370,w1,cw132,cr132,w2,c1,c5,cw400,cr400,w4]
   ·simp -implicitDefEqProofs [cw370,cr370,w1,cw132,cr132,w2,c1,c4,cw400,cr400,w4]
  | some l =>
   have hz:l=[]:=c3
   subst hz
   simp only [evD,evL,parD,intsD_nil] at w2 w4 ⊢
   clear w3 w5 w6
   by_cases c4:d=3
   ·have c5:¬ek=3:=fun h=>c2 ⟨c4,h⟩
    subst c4
    simp -implicitDefEqProofs [cw370,cr370,w1,cw132,cr132,w2,c1,c5,cw400,cr400,w4]
   ·simp -implicitDefEqProofs [cw370,cr370,w1,cw132,cr132,w2,c1,c4,cw400,cr400,w4]
 rw [if_neg c3]
 obtain ⟨ek,er,ep,ei,ef,ps,et⟩:=e
 cases ps with
 | none=>exact absurd rfl c3
 | some l =>
  have c3':l≠[]:=c3
  have hp:Ev.par ⟨ek,er,ep,ei,ef,some l,et⟩=l:=rfl
  have hll:l.length≤100000:=hl
  have hpos:0<l.length:=List.length_pos_iff.2 c3'
  have hpos':¬(l.length:Int)=0:=by omega
  simp only [hp] at w6 ⊢
  clear w3 w4 hp hl c3
  obtain ⟨p,hpp⟩:∃ p,p=countsB d ⟨ek,er,ep,ei,ef,some l,et⟩:=⟨_,rfl⟩
  rw [←hpp] at w5 w6 ⊢
  clear hpp
  simp only [evD,evL,parD] at w2 w5 w6 ⊢
  obtain ⟨F,hF⟩:∃ F:Nat→List Int,F=fun i=>(l.take i).filter p:=⟨_,rfl⟩
  have F0:F 0=[]:=by rw [hF];rfl
  have FN:F l.length=l.filter p:=by rw [hF];simp only [List.take_length]
  have Fs:∀ i x,l[i]? = some x→F (i+1)=F i++(if p x then [x] else []):=fun i x h=>by rw [hF];exact filt_take p l i x h
  have Fl:∀ i,(F i).length≤i:=fun i=>by rw [hF];exact filt_len p l i
  rw [←FN] at w6 ⊢
  clear hF FN
  have step:∀ i,i<l.length→loopF (clOf (modsR tab (k+10)) 3) [(0,⟨false,0,false⟩),(39,⟨false,0,false⟩),(40,⟨false,0,false⟩),(41,⟨false,0,false⟩),(4,⟨true,0,false⟩),(5,⟨true,0,false⟩),(6,⟨true,0,false⟩),(7,⟨true,1,false⟩)] (.seq (.reg [⟨(some 42), .bin .lss (.t 41) (.t 40),none⟩]) (.seq (.cond (.t 42) .skip (.exit 1)) (.seq (.block 2 (.seq (.reg [⟨(some 43), .ixs 1 (.t 39) (.t 41),none⟩,⟨(some 44), .load false 1 (.t 43),none⟩,⟨(some 9), .mv (.t 44),none⟩]) (.seq (.reg [⟨(some 45), .mv (.t 0),none⟩,⟨(some 46), .load true 7 (.t 5),none⟩,⟨(some 47), .mv (.t 9),none⟩,⟨(some 48), .call false 425 [(.t 45),(.t 46),(.t 47)],none⟩]) (.cond (.t 48) (.reg [⟨(some 49), .mv (.t 7),none⟩,⟨(some 50), .mv (.t 9),none⟩,⟨(some 51), .bsl false 1 1 [(D.int .i64 (0))] [(0,(.t 50))],none⟩,⟨(some 52), .append 1 8 (.t 49) (.t 51),none⟩,⟨(some 7), .mv (.t 52),none⟩]) .skip)))) (.reg [⟨(some 53), .bin .add (.t 41) (.k (D.int .i64 (1))),none⟩,⟨(some 41), .mv (.t 53),none⟩])))) [I d, .sl 1 (intsD l),I l.length,I i, .obx (scL s), .obx [I ek,R er,U ep,U ei,U ef, .sl 1 (intsD l),S et], .obx zS, .osl true 1 (intsD (F i))]=some (.nrm,[I d, .sl 1 (intsD l),I l.length,I ((i+1:Nat):Int), .obx (scL s), .obx [I ek,R er,U ep,U ei,U ef, .sl 1 (intsD l),S et], .obx zS, .osl true 1 (intsD (F (i+1)))]):=by
   intro i hi
   obtain ⟨x,hx⟩:=get_ex hi
   have hlt:(i:Int)<l.length:=by omega
   have g:=intsD_getD hx
   have g':=intsD_at hx
   have fl:=Fl i
   rw [Fs i x hx]
   clear F0 Fs Fl w6
   generalize F i=G at *
   have b2:(G.length+1)*8≤140737488355328:=by omega
   have b3:G.length+1≤17592186044416:=by omega
   have b4:G.length≤17592186044415:=by omega
   have w5':=fun q=>w5 q x
   clear w1 w2 w5
   cases hpx:p x with
   | true =>
    simp only [hpx] at w5'
    simp -implicitDefEqProofs [zS,hlt,hi,g,g',cw425,cr425,w5',b2,b3,b4,wr_id ((i:Int)+1) (by omega) (by omega)]
   | false =>
    simp only [hpx] at w5'
    simp -implicitDefEqProofs [zS,hlt,hi,g,g',cw425,cr425,w5',wr_id ((i:Int)+1) (by omega) (by omega)]
  have last:loopF (clOf (modsR tab (k+10)) 3) [(0,⟨false,0,false⟩),(39,⟨false,0,false⟩),(40,⟨false,0,false⟩),(41,⟨false,0,false⟩),(4,⟨true,0,false⟩),(5,⟨true,0,false⟩),(6,⟨true,0,false⟩),(7,⟨true,1,false⟩)] (.seq (.reg [⟨(some 42), .bin .lss (.t 41) (.t 40),none⟩]) (.seq (.cond (.t 42) .skip (.exit 1)) (.seq (.block 2 (.seq (.reg [⟨(some 43), .ixs 1 (.t 39) (.t 41),none⟩,⟨(some 44), .load false 1 (.t 43),none⟩,⟨(some 9), .mv (.t 44),none⟩]) (.seq (.reg [⟨(some 45), .mv (.t 0),none⟩,⟨(some 46), .load true 7 (.t 5),none⟩,⟨(some 47), .mv (.t 9),none⟩,⟨(some 48), .call false 425 [(.t 45),(.t 46),(.t 47)],none⟩]) (.cond (.t 48) (.reg [⟨(some 49), .mv (.t 7),none⟩,⟨(some 50), .mv (.t 9),none⟩,⟨(some 51), .bsl false 1 1 [(D.int .i64 (0))] [(0,(.t 50))],none⟩,⟨(some 52), .append 1 8 (.t 49) (.t 51),none⟩,⟨(some 7), .mv (.t 52),none⟩]) .skip)))) (.reg [⟨(some 53), .bin .add (.t 41) (.k (D.int .i64 (1))),none⟩,⟨(some 41), .mv (.t 53),none⟩])))) [I d, .sl 1 (intsD l),I l.length,I l.length, .obx (scL s), .obx [I ek,R er,U ep,U ei,U ef, .sl 1 (intsD l),S et], .obx zS, .osl true 1 (intsD (F l.length))]=some (.exit 1,[I d, .sl 1 (intsD l),I l.length,I l.length, .obx (scL s), .obx [I ek,R er,U ep,U ei,U ef, .sl 1 (intsD l),S et], .obx zS, .osl true 1 (intsD (F l.length))]):=by
   clear w1 w2 w5 w6 step Fs F0 Fl
   generalize F l.length=G at *
   simp -implicitDefEqProofs [zS]
  have c45:¬d=3∨¬ek=3:=by
   by_cases c4:d=3
   ·exact .inr fun h=>c2 ⟨c4,h⟩
   ·exact .inl c4
  clear c2 Fs Fl w5
  rw [evFun_evB rfl]
  unfold s423
  generalize hS:doS s ⟨ek,er,ep,ei,ef,some (F l.length),et⟩=S' at *
  rcases c45 with c4 | c5
  ·simp -implicitDefEqProofs [cw370,cr370,w1,cw132,cr132,w2,c1,c4,c3',hpos']
   refine evB_for (fun i=>[I d, .sl 1 (intsD l),I l.length,I i, .obx (scL s), .obx [I ek,R er,U ep,U ei,U ef, .sl 1 (intsD l),S et], .obx zS, .osl true 1 (intsD (F i))]) l.length (.exit 1) [I d, .sl 1 (intsD l),I l.length,I l.length, .obx (scL s), .obx [I ek,R er,U ep,U ei,U ef, .sl 1 (intsD l),S et], .obx zS, .osl true 1 (intsD (F l.length))] ?_ step last (by simp) (by simp [rounds];omega) ?_
   ·simp -implicitDefEqProofs [F0,zS]
   ·clear step last F0
    generalize F l.length=G at *
    by_cases hG:G=[]
    ·subst hG
     simp -implicitDefEqProofs [zS]
    ·have hG':¬(G.length:Int)=0:=by have:=List.length_pos_iff.2 hG;omega
     simp -implicitDefEqProofs [zS,hG,hG',cw400,cr400,w6]
  ·by_cases c4:d=3
   ·subst c4
    simp -implicitDefEqProofs [cw370,cr370,w1,cw132,cr132,w2,c1,c5,c3',hpos']
    refine evB_for (fun i=>[I 3, .sl 1 (intsD l),I l.length,I i, .obx (scL s), .obx [I ek,R er,U ep,U ei,U ef, .sl 1 (intsD l),S et], .obx zS, .osl true 1 (intsD (F i))]) l.length (.exit 1) [I 3, .sl 1 (intsD l),I l.length,I l.length, .obx (scL s), .obx [I ek,R er,U ep,U ei,U ef, .sl 1 (intsD l),S et], .obx zS, .osl true 1 (intsD (F l.length))] ?_ step last (by simp) (by simp [rounds];omega) ?_
    ·simp -implicitDefEqProofs [F0,zS]
    ·clear step last F0
     generalize F l.length=G at *
     by_cases hG:G=[]
     ·subst hG
      simp -implicitDefEqProofs [zS]
     ·have hG':¬(G.length:Int)=0:=by have:=List.length_pos_iff.2 hG;omega
      simp -implicitDefEqProofs [zS,hG,hG',cw400,cr400,w6]
   ·simp -implicitDefEqProofs [cw370,cr370,w1,cw132,cr132,w2,c1,c4,c3',hpos']
    refine evB_for (fun i=>[I d, .sl 1 (intsD l),I l.length,I i, .obx (scL s), .obx [I ek,R er,U ep,U ei,U ef, .sl 1 (intsD l),S et], .obx zS, .osl true 1 (intsD (F i))]) l.length (.exit 1) [I d, .sl 1 (intsD l),I l.length,I l.length, .obx (scL s), .obx [I ek,R er,U ep,U ei,U ef, .sl 1 (intsD l),S et], .obx zS, .osl true 1 (intsD (F l.length))] ?_ step last (by simp) (by simp [rounds];omega) ?_
    ·simp -implicitDefEqProofs [F0,zS]
    ·clear step last F0
     generalize F l.length=G at *
     by_cases hG:G=[]
     ·subst hG
      simp -implicitDefEqProofs [zS]
     ·have hG':¬(G.length:Int)=0:=by have:=List.length_pos_iff.2 hG;omega
      simp -implicitDefEqProofs [zS,hG,hG',cw400,cr400,w6]
end Go.Proofs.YtlpchliomdomdaaGreat.LgTab
namespace Lg
open Go
structure Dc where
 need:Int
 have_:Int
 acc:Int
structure Ps where
 st:Int
 d:Dc
 inter:List Int
 began:Bool
 priv:Int
 params:List Int
 wrong:Bool
 osc:Bool
 b:List Int
 over:Bool
abbrev Dc.nil:Dc:=⟨0,0,0⟩
def ownU (l:List Int):D:=if l=[] then .sn else .osl true 1 (l.map U)
def ownI (l:List Int):D:=if l=[] then .sn else .osl true 1 (intsD l)
def evsL (l:List Ev):List D:=l.map fun e=>evD e
end Lg
namespace Lg
open Go
set_option linter.unusedVariables false
set_option linter.unusedSimpArgs false
abbrev cs (bg:Bool) (pr:Int) (l it:List Int):Ps:=⟨2, .nil,it,bg,pr,l,false,false,[],false⟩
def rightR (n:Int):Prop:=(32≤n∧n<127)∨(128≤n∧n≤1114111∧(n<55296∨57343<n))
def isLonger (b:Int):Prop:=b=91∨b=93∨b=80∨b=88∨b=94∨b=95
instance (b:Int):Decidable (isLonger b):=by unfold isLonger;exact inferInstance
def RightE (e:Ev):Prop :=
 (e.k=1∧rightR e.r∧e.pr=0∧e.it=0∧e.fi=0∧e.par=[]∧e.tx=[]) ∨
 (e.k=2∧e.r=0∧e.pr=0∧e.it=0∧(0≤e.fi∧e.fi<32∧e.fi≠24∧e.fi≠26∧e.fi≠27)∧e.par=[]∧e.tx=[]) ∨
 (e.k=3∧e.r=0∧e.pr=0∧(e.it=0∨32≤e.it∧e.it≤47)∧(48≤e.fi∧e.fi≤126)∧(e.it≠0∨¬isLonger e.fi)∧e.par=[]∧e.tx=[]) ∨
 (e.k=4∧e.r=0∧(e.pr=0∨60≤e.pr∧e.pr≤63)∧(e.it=0∨32≤e.it∧e.it≤47)∧(64≤e.fi∧e.fi≤126)∧(∀ n,n∈e.par→ -1≤n∧n≤65535)∧e.par.length≤16∧e.par≠[-1]∧e.tx=[]) ∨
 (e.k=5∧e.r=0∧e.pr=0∧e.it=0∧e.fi=0∧e.par=[]∧(∀ b,b∈e.tx→32≤b.toNat)∧e.tx.length≤4096)
end Lg
namespace Go.Proofs.YtlpchliomdomdaaGreat.LgTab
open Go Lg
set_option linter.unusedVariables false
set_option linter.unusedSimpArgs false
set_option maxRecDepth 8000
@[simp high] theorem par_len (o:Option (List Int)):lenD (parD o)=some (o.getD []).length:=by cases o<;>simp [parD,lenD]
@[simp high] theorem par_sl (o:Option (List Int)) (H:List Ob):∃ n,slD H (parD o)=some (n,intsD (o.getD [])):=by cases o<;>simp [parD,slD]
def inL (l:List UInt8) (c:Int):Bool:=l.any fun b=>decide ((b.toNat:Int)=c)
theorem inL_take (l:List UInt8) (c:Int) (i:Nat) (b:UInt8) (h:l[i]? = some b):inL (l.take (i+1)) c=(inL (l.take i) c || decide ((b.toNat:Int)=c)):=by
 unfold inL
 rw [take_snoc h,List.any_append]
 simp
end Go.Proofs.YtlpchliomdomdaaGreat.LgTab
namespace Go.Proofs.YtlpchliomdomdaaGreat.LgTab
open Go Lg
set_option linter.unusedVariables false
set_option linter.unusedSimpArgs false
set_option maxRecDepth 8000
theorem sp275 (k:Nat) (l:List UInt8) (c:Int) (hl:l.length≤1000):evFun (clOf (modsR tab k) 3) s275 [S l,U c]=some (B (inL l c),[]):=by
 rw [evFun_evB rfl]
 unfold s275
 simp -implicitDefEqProofs []
 refine evB_inv (P:=fun o=>o=some (B (inL l c),[])) (σ:=Nat) (fun i=>[S l,U c,B false,I i]) (fun i=>l.length-i) (fun i=>i≤l.length∧inL (l.take i) c=false)
  (fun ex t=>(ex = .exit 0∧t=[S l,U c,B false,I l.length]∧inL l c=false)∨(ex = .ret∧∃ i:Nat,t=[S l,U c,B true,I i]∧inL l c=true)) 0 ?_ ⟨by omega,by simp [inL]⟩ (by simp [rounds];omega) ?_ ?_
 ·simp -implicitDefEqProofs []
 ·rintro i ⟨hi,hn⟩
  by_cases h1:i<l.length
  ·have hlt:(i:Int)<l.length:=by omega
   obtain ⟨b,hb⟩:=get_ex h1
   have hg:=get_of hb
   have ht:=inL_take l c i b hb
   by_cases h2:(b.toNat:Int)=c
   ·right
    have hin:inL l c=true:=by
     unfold inL
     rw [List.any_eq_true]
     exact ⟨b,List.mem_of_getElem? hb,by simpa using h2⟩
    exact ⟨.ret,[S l,U c,B true,I i],by simp -implicitDefEqProofs [hlt,h1,hb,hg,h2],by simp, .inr ⟨rfl,i,rfl,hin⟩⟩
   ·left
    refine ⟨i+1,by simp -implicitDefEqProofs [hlt,h1,hb,hg,h2,wr_id ((i:Int)+1) (by omega) (by omega)],by omega,by omega,by rw [ht,hn];simp [h2]⟩
  ·right
   have hlt:¬(i:Int)<l.length:=by omega
   have e:i=l.length:=by omega
   subst e
   exact ⟨.exit 0,[S l,U c,B false,I l.length],by simp -implicitDefEqProofs [],by simp, .inl ⟨rfl,rfl,by rw [List.take_length] at hn;exact hn⟩⟩
 ·rintro ex t (⟨rfl,rfl,h⟩ | ⟨rfl,i,rfl,h⟩)
  ·rw [h]
   simp -implicitDefEqProofs []
  ·rw [h]
   simp -implicitDefEqProofs []
noncomputable def refK (d:Int) (e:Ev):Bool :=
 if e.k=1 then decide (32≤e.r) && decide (e.r<127)
 else if e.k=2 then decide ((7≤e.fi∧e.fi≤10)∨e.fi=13∨(d≠3∧(e.fi=14∨e.fi=15)))
 else if d=3 then decide (e.k=3) && (decide (e.it=0) && inL [65,66,67,68,72,73,74,75,89] e.fi)
 else if e.k=3∧e.it=0 then inL [55,56,68,69,77,72,99,61,62] e.fi
 else if e.k=3 then decide ((e.it=40∨e.it=41)∧(e.fi=48∨e.fi=66))
 else if e.k≠4∨e.it≠0 then false
 else if e.pr=63 then inL [104,108] e.fi
 else if e.pr≠0 then false
 else inL [65,66,67,68,72,102,74,75,109,114,103] e.fi || (decide (d=2) && inL [71,100,69,70,64,80,76,77,88] e.fi)
set_option maxHeartbeats 8000000 in
theorem sp260 (k:Nat) (d:Int) (hd:d=1∨d=2∨d=3) (e:Ev):evFun (clOf (modsR tab (k+1)) 3) s260 [I d,evD e]=some (B (refK d e),[]):=by
 obtain ⟨ek,er,ep,ei,ef,ps,et⟩:=e
 have w:=fun q l h=>sp275 q l ef h
 have w1:=fun q=>sp275 q [65,66,67,68,72,73,74,75,89] ef (by simp)
 have w2:=fun q=>sp275 q [55,56,68,69,77,72,99,61,62] ef (by simp)
 have w3:=fun q=>sp275 q [104,108] ef (by simp)
 have w4:=fun q=>sp275 q [65,66,67,68,72,102,74,75,109,114,103] ef (by simp)
 have w5:=fun q=>sp275 q [71,100,69,70,64,80,76,77,88] ef (by simp)
 clear w
 rw [evFun_evB rfl]
 unfold s260 refK
 generalize inL [65,66,67,68,72,73,74,75,89] ef=b1 at *
 generalize inL [55,56,68,69,77,72,99,61,62] ef=b2 at *
 generalize inL [104,108] ef=b3 at *
 generalize inL [65,66,67,68,72,102,74,75,109,114,103] ef=b4 at *
 generalize inL [71,100,69,70,64,80,76,77,88] ef=b5 at *
 by_cases k1:ek=1
 ·subst k1
  rcases hd with rfl | rfl | rfl<;>by_cases a:32≤er<;>simp -implicitDefEqProofs [a]
 by_cases k2:ek=2
 ·subst k2
  by_cases a1:7≤ef
  ·by_cases a2:ef≤10
   ·rcases hd with rfl | rfl | rfl<;>simp -implicitDefEqProofs [a1,a2]
   ·by_cases a3:ef=13
    ·subst a3
     rcases hd with rfl | rfl | rfl<;>simp -implicitDefEqProofs []
    ·by_cases a4:ef=14
     ·subst a4
      rcases hd with rfl | rfl | rfl<;>simp -implicitDefEqProofs []
     ·rcases hd with rfl | rfl | rfl<;>simp -implicitDefEqProofs [a1,a2,a3,a4]
  ·have a3:¬ef=13:=by omega
   have a4:¬ef=14:=by omega
   have a5:¬ef=15:=by omega
   rcases hd with rfl | rfl | rfl<;>simp -implicitDefEqProofs [a1,a3,a4,a5]
 by_cases k3:ek=3
 ·subst k3
  by_cases a1:ei=0
  ·subst a1
   rcases hd with rfl | rfl | rfl<;>simp -implicitDefEqProofs [cw275,cr275,w1,w2]
  ·by_cases a2:ei=40
   ·subst a2
    by_cases a4:ef=48
    ·subst a4
     rcases hd with rfl | rfl | rfl<;>simp -implicitDefEqProofs []
    ·rcases hd with rfl | rfl | rfl<;>simp -implicitDefEqProofs [a4]
   ·by_cases a3:ei=41
    ·subst a3
     by_cases a4:ef=48
     ·subst a4
      rcases hd with rfl | rfl | rfl<;>simp -implicitDefEqProofs []
     ·rcases hd with rfl | rfl | rfl<;>simp -implicitDefEqProofs [a4]
    ·rcases hd with rfl | rfl | rfl<;>simp -implicitDefEqProofs [a1,a2,a3]
 by_cases k4:ek=4
 ·subst k4
  by_cases a1:ei=0
  ·subst a1
   by_cases a2:ep=63
   ·subst a2
    rcases hd with rfl | rfl | rfl<;>simp -implicitDefEqProofs [cw275,cr275,w3]
   ·by_cases a3:ep=0
    ·subst a3
     rcases hd with rfl | rfl | rfl<;>cases b4<;>simp -implicitDefEqProofs [cw275,cr275,w4,w5]
    ·rcases hd with rfl | rfl | rfl<;>simp -implicitDefEqProofs [a2,a3]
  ·rcases hd with rfl | rfl | rfl<;>simp -implicitDefEqProofs [a1]
 ·rcases hd with rfl | rfl | rfl<;>simp -implicitDefEqProofs [k1,k2,k3,k4]
def gap (e:Ev):Prop:=(e.k=1∧(e.pr≠0∨e.it≠0))∨(e.k=2∧(e.pr≠0∨e.it≠0))∨(e.k=3∧e.pr≠0)
theorem inL_eq (l:List UInt8) (c:Int):inL l c=l.any fun b=>decide (c=(b.toNat:Int)):=by
 unfold inL
 congr 1
 funext b
 simp [eq_comm]
set_option maxHeartbeats 4000000 in
theorem knows_ref (d:Int) (e:Ev) (h5:d=1∨d=2∨d=3) (hg:¬gap e):knowsM d e=refK d e:=by
 obtain ⟨kind,rune,priv,inter,fin,par,text⟩:=e
 simp only [gap] at hg
 have hq:kind=1∨kind=2∨kind=3∨kind=4∨(kind≠1∧kind≠2∧kind≠3∧kind≠4):=by omega
 rcases hq with rfl | rfl | rfl | rfl | ⟨n1,n2,n3,n4⟩
 ·obtain ⟨hp,hi⟩:priv=0∧inter=0:=by omega
  subst hp hi
  rcases h5 with rfl | rfl | rfl<;>rw [Bool.eq_iff_iff]<;>simp [knowsM,refK,tblM,rowsM,keyM]<;>grind
 ·obtain ⟨hp,hi⟩:priv=0∧inter=0:=by omega
  subst hp hi
  rcases h5 with rfl | rfl | rfl<;>rw [Bool.eq_iff_iff]<;>simp [knowsM,refK,tblM,rowsM,keyM]<;>grind
 ·obtain rfl:priv=0:=by omega
  rcases h5 with rfl | rfl | rfl<;>rw [Bool.eq_iff_iff]<;>simp [knowsM,refK,tblM,rowsM,keyM,inL_eq]<;>grind
 ·by_cases hi:inter=0
  ·subst hi
   by_cases hp:priv=63
   ·subst hp
    rcases h5 with rfl | rfl | rfl<;>rw [Bool.eq_iff_iff]<;>simp [knowsM,refK,tblM,rowsM,keyM,inL_eq]<;>try omega
   by_cases hp0:priv=0
   ·subst hp0
    rcases h5 with rfl | rfl | rfl<;>rw [Bool.eq_iff_iff]<;>simp [knowsM,refK,tblM,rowsM,keyM,inL_eq]<;>try omega
   rcases h5 with rfl | rfl | rfl<;>rw [Bool.eq_iff_iff]<;>simp [knowsM,refK,tblM,rowsM,keyM,inL_eq,hp,hp0]
  ·rcases h5 with rfl | rfl | rfl<;>rw [Bool.eq_iff_iff]<;>simp [knowsM,refK,tblM,rowsM,keyM,inL_eq,hi]
 ·rcases h5 with rfl | rfl | rfl<;>simp [knowsM,refK,tblM,rowsM,keyM,n1,n2,n3,n4]
end Go.Proofs.YtlpchliomdomdaaGreat.LgTab
namespace Go.Proofs.YtlpchliomdomdaaGreat.LgTab
open Go Lg
set_option linter.unusedVariables false
set_option linter.unusedSimpArgs false
set_option maxRecDepth 8000
theorem sp111 (k:Nat) (c:Int) (h:colOk c):evFun (clOf (modsR tab k) 3) s111 [I c]=some (B true,[]):=by
 rw [evFun_evB rfl]
 unfold s111
 by_cases h1 : -1≤c
 ·by_cases h2:c≤255
  ·simp -implicitDefEqProofs [h1,h2]
  ·have h3:16777216≤c∧c<33554432:=by unfold colOk at h;omega
   simp -implicitDefEqProofs [h1,h2,h3.1,h3.2]
 ·unfold colOk at h
  omega
theorem sp108 (k:Nat) (p:Pn) (h:PR p):evFun (clOf (modsR tab (k+1)) 3) s108 [pnD p]=some (B true,[]):=by
 have w1:=fun q=>sp111 q p.f h.1
 have w2:=fun q=>sp111 q p.b h.2.1
 have h3:=h.2.2
 rw [evFun_evB rfl]
 unfold s108
 simp -implicitDefEqProofs [cw111,w1,w2,h3.1,h3.2]
def RowFit (l:List Cel) (i:Nat) (x:Cel):Prop :=
 PR x.p∧((x.k=0∧widthR x.r=1)∨(x.k=1∧widthR x.r=2∧∃ d,l[i+1]? = some d∧d.k=2∧d.p=x.p)∨(x.k=2∧x.r=0∧∃ j d,i=j+1∧l[j]? = some d∧d.k=1∧d.p=x.p))
theorem RightL.row {g:Gd} (o:OkG g) (h:RightL g.cells g.w) {r i:Nat} (hr:r<g.h) {x:Cel} (hx:(rowL g r)[i]? = some x):RowFit (rowL g r) i x:=by
 have hl:=rowL_len o hr
 have hi:i<g.w:=by rw [←hl];exact (List.getElem?_eq_some_iff.1 hx).1
 have at':∀ j,j<g.w→(rowL g r)[j]? = g.cells[rowOff g r+j]?:=fun j hj=>by
  show ((g.cells.drop (rowOff g r)).take g.w)[j]? = _
  rw [List.getElem?_take_of_lt hj,List.getElem?_drop]
 rw [at' i hi] at hx
 have md:∀ j,(rowOff g r+j) % g.w=j % g.w:=fun j=>by rw [rowOff_def,Nat.mul_comm,Nat.mul_add_mod]
 obtain ⟨hp,h1 | ⟨h1,h2,h3,d,h4,h5⟩ | ⟨h1,h2,h3,j,d,h4,h5,h6⟩⟩:=h _ x hx
 ·exact ⟨hp, .inl h1⟩
 ·refine ⟨hp, .inr (.inl ⟨h1,h2,d,?_,h5⟩)⟩
  have hlt:i+1<g.w:=by
   rcases Nat.lt_or_ge (i+1) g.w with hh | hh
   ·exact hh
   ·exfalso
    apply h3
    have:i+1=g.w:=by omega
    rw [Nat.add_assoc,md,this,Nat.mod_self]
  rw [at' _ hlt,←Nat.add_assoc]
  exact h4
 ·refine ⟨hp, .inr (.inr ⟨h1,h2,i-1,d,?_,?_,h6⟩)⟩
  ·rcases Nat.eq_zero_or_pos i with hh | hh
   ·exfalso
    apply h3
    rw [md,hh,Nat.zero_mod]
   ·omega
  ·have hi0:0<i:=by
    rcases Nat.eq_zero_or_pos i with hh | hh
    ·exfalso
     apply h3
     rw [md,hh,Nat.zero_mod]
    ·exact hh
   rw [at' _ (by omega)]
   have:rowOff g r+(i-1)=j:=by omega
   rw [this]
   exact h5
theorem fit_half {l:List Cel} {i:Nat} {x:Cel} (hx:l[i]? = some x) (h:RowFit l i x):halfB l i=false:=by
 have k0:=kAt_some hx
 unfold halfB
 rw [k0]
 obtain ⟨hp,⟨h1,h2⟩ | ⟨h1,h2,d,h3,h4,h5⟩ | ⟨h1,h2,j,d,h3,h4,h5,h6⟩⟩:=h
 ·simp [h1]
 ·simp [h1,kAt_some h3,h4]
 ·subst h3
  simp [h1,kAt_some h4,h5]
set_option maxHeartbeats 4000000 in
theorem sp160 (k:Nat) (l:List Cel) (i:Nat) (x:Cel) (hx:l[i]? = some x) (h:RowFit l i x) (hl:l.length≤100000):evFun (clOf (modsR tab (k+3)) 3) s160 [.sl 5 (celsD l),I i]=some (B true,[]):=by
 have hi:i<l.length:=(List.getElem?_eq_some_iff.1 hx).1
 have g:=celsD_getD hx
 have g':=celsD_at hx
 have w1:=fun q=>sp109 q x.r
 have w2:=fun q=>sp108 q x.p h.1
 have w3:=fun q=>sp159 q l i hi hl
 rw [fit_half hx h] at w3
 obtain ⟨r,kk,p⟩:=x
 obtain ⟨f,b,gg⟩:=p
 obtain ⟨hp,⟨h1,h2⟩ | ⟨h1,h2,d,h3,h4,h5⟩ | ⟨h1,h2,j,d,h3,h4,h5,h6⟩⟩:=h
 ·simp only at h1 h2 w1 w2
  rw [h2] at w1
  subst h1
  rw [evFun_evB rfl]
  unfold s160
  simp -implicitDefEqProofs [hi,g,g',cw109,w1,cw108,w2]
 ·simp only at h1 h2 w1 w2 h5
  rw [h2] at w1
  subst h1
  have d1:=celsD_getD h3
  have d2:=celsD_at h3
  obtain ⟨r',k',p'⟩:=d
  simp only at h4 h5
  subst h4 h5
  have hi2:i+1<l.length:=(List.getElem?_eq_some_iff.1 h3).1
  have e1:wr ((i:Int)+1)=((i+1:Nat):Int):=by rw [wr_id _ (by omega) (by omega)];omega
  have hn:(0:Int)≤(i:Int)+1:=by omega
  rw [evFun_evB rfl]
  unfold s160
  simp -implicitDefEqProofs [hi,g,g',cw109,cr109,w1,cw108,cr108,w2,cw159,cr159,w3,e1,d1,d2,hi2,hn]
 ·simp only at h1 h2 w1 w2
  subst h1 h2
  rw [evFun_evB rfl]
  unfold s160
  simp -implicitDefEqProofs [hi,g,g',cw159,w3]
theorem ir163s (k n:Nat) (H:List Ob) (g:Gd) (o:OkG g) (r:Nat) (hr:r<g.h):(clOf (modsR tab (k+1)) (n+1)).r 163 [gdD g,I r] H=some (.sl 5 (celsD (rowL g r))):=by
 have w:=iw163s k n (deads (bound [])) g o r hr
 rw [cw163] at w
 rw [cr163]
 unfold evInlQ
 simp -implicitDefEqProofs [w]
set_option maxHeartbeats 4000000 in
theorem sp154 (k:Nat) (g:Gd) (o:OkG g) (h:RightL g.cells g.w) (h40:g.h≤40) (w60:g.w≤60):evFun (clOf (modsR tab (k+4)) 3) s154 [gdD g]=some (B true,[]):=by
 have hl:g.cells.length≤2400:=by rw [o.2.2.2.2];exact Nat.mul_le_mul h40 w60
 have b0:=o.1
 have b1:=o.2.2.1
 have c1:¬(g.h:Int)<1:=by omega
 have c2:¬(40:Int)<g.h:=by omega
 have c3:¬(g.w:Int)<1:=by omega
 have c4:¬(60:Int)<g.w:=by omega
 have em:wr ((g.h:Int)*g.w)=g.cells.length:=by rw [o.2.2.2.2,←Int.natCast_mul];exact wr_id _ (by have:=o.2.2.2.2;omega) (by have:=o.2.2.2.2;omega)
 rw [evFun_evB rfl]
 unfold s154
 simp -implicitDefEqProofs [c1,c2,c3,c4,em]
 refine evB_for (fun i=>[B false,I g.cells.length,I i, .obx [I g.h,I g.w, .sl 5 (celsD g.cells)]]) g.cells.length (.exit 0) [B false,I g.cells.length,I g.cells.length, .obx [I g.h,I g.w, .sl 5 (celsD g.cells)]] ?_ (fun i hi=>?_) ?_ (by simp) (by simp [rounds];omega) ?_
 ·simp -implicitDefEqProofs []
 ·have hr:i / g.w<g.h:=by rw [Nat.div_lt_iff_lt_mul (by omega)];rw [o.2.2.2.2] at hi;exact hi
  have hm:i % g.w<g.w:=Nat.mod_lt _ (by omega)
  obtain ⟨x,hx⟩:=get_ex (l:=rowL g (i / g.w)) (i:=i % g.w) (by rw [rowL_len o hr];exact hm)
  have w160:=fun q=>sp160 q _ _ x hx (RightL.row o h hr hx) (by rw [rowL_len o hr];omega)
  have wi:=fun H n q=>ir163s q n H g o (i / g.w) hr
  have hlt:(i:Int)<g.cells.length:=by omega
  have hz:¬g.w=0:=by omega
  have e1:wr ((i:Int) / g.w)=((i / g.w:Nat):Int):=by
   rw [←Int.natCast_ediv]
   generalize i / g.w=r at hr
   exact wr_id _ (by omega) (by omega)
  have e2:(i:Int) % g.w=((i % g.w:Nat):Int):=by simp
  have e3:(i:Int).tmod g.w=((i % g.w:Nat):Int):=by
   rw [Int.tmod_eq_emod_of_nonneg (by omega)]
   simp
  generalize i / g.w=r at *
  generalize i % g.w=c at *
  simp -implicitDefEqProofs [hlt,hz,e1,e2,e3,wi,cw160,w160,wr_id ((i:Int)+1) (by omega) (by omega)]
 ·simp -implicitDefEqProofs []
 ·simp -implicitDefEqProofs []
end Go.Proofs.YtlpchliomdomdaaGreat.LgTab
