import Derived.Test.YtlpchliomdomdaaGreatPt25
namespace Go.Proofs.YtlpchliomdomdaaGreat.LgTab
open Go Lg
set_option linter.unusedVariables false
set_option linter.unusedSimpArgs false
set_option maxRecDepth 8000
def erFrom (r c:Nat) (what:Int) (all:Bool) (y:Nat):Int:=if what>2∨(all=false∧y≠r)∨(what=0∧y<r)∨(what=1∧r<y) then 0 else if what=0∧y=r then c else 0
def erUpto (g:Gd) (r c:Nat) (what:Int) (all:Bool) (y:Nat):Int:=if what>2∨(all=false∧y≠r)∨(what=0∧y<r)∨(what=1∧r<y) then 0 else if what=0∧y=r then g.w else if what=1∧y=r then (c:Int)+1 else g.w
def refEr (g:Gd) (r c:Nat) (what:Int) (all:Bool) (p:Pn):Nat→Gd
 | 0=>g
 | i+1=>wipeG (refEr g r c what all p i) i (erFrom r c what all i) (erUpto g r c what all i) p
theorem refEr_ok {g:Gd} (o:OkG g) (r c:Nat) (what:Int) (all:Bool) (p:Pn):∀ i,i≤g.h→OkG (refEr g r c what all p i)∧(refEr g r c what all p i).h=g.h∧(refEr g r c what all p i).w=g.w∧(refEr g r c what all p i).cells.length=g.cells.length
 | 0,_=>⟨o,rfl,rfl,rfl⟩
 | i+1,hi=>by
  obtain ⟨o1,e1,e2,e3⟩:=refEr_ok o r c what all p i (by omega)
  obtain ⟨o2,f1,f2,f3⟩:=wipeG_ok o1 (r:=i) (by omega) (erFrom r c what all i) (erUpto g r c what all i) p
  exact ⟨o2,f1.trans e1,f2.trans e2,f3.trans e3⟩
theorem rowL_refEr {g:Gd} (o:OkG g) (r c:Nat) (what:Int) (all:Bool) (p:Pn) {y:Nat} (hy:y<g.h):∀ i,i≤g.h→rowL (refEr g r c what all p i) y=if y<i then mendL (wipeRow (rowL g y) (mxI (erFrom r c what all y) 0).toNat (max (mxI (erFrom r c what all y) 0) (mnI (erUpto g r c what all y) g.w)).toNat p) else rowL g y
 | 0,_=>by rw [if_neg (by omega)];rfl
 | i+1,hi=>by
  obtain ⟨o1,e1,e2,e3⟩:=refEr_ok o r c what all p i (by omega)
  have ih:=rowL_refEr o r c what all p hy i (by omega)
  show rowL (wipeG (refEr g r c what all p i) i _ _ p) y=_
  by_cases e:y=i
  ·subst e
   rw [rowL_wipeG o1 (by omega),ih,if_neg (by omega),if_pos (by omega),e2]
  ·rw [rowL_wipeG_ne o1 (by omega) (by omega) e,ih]
   by_cases h:y<i
   ·rw [if_pos h,if_pos (by omega)]
   ·rw [if_neg h,if_neg (by omega)]
theorem wipe_no {l:List Cel} (f:RightRow l) (p:Pn) (b:Int) (hb:b≤0):mendL (wipeRow l (mxI 0 0).toNat (max (mxI 0 0) b).toNat p)=l:=by
 have e1:(mxI 0 0).toNat=0:=rfl
 have e2:(max (mxI 0 0) b).toNat=0:=by
  have:mxI 0 0=0:=rfl
  omega
 rw [e1,e2,wipeRow_0]
 exact mendL_right f
theorem er_big (g:Gd) (r c:Nat) (what:Int) (all:Bool) (y:Nat) (h:what>2):erFrom r c what all y=0∧erUpto g r c what all y=0:=by
 unfold erFrom erUpto
 rw [if_pos (.inl h),if_pos (.inl h)]
 exact ⟨rfl,rfl⟩
theorem er_0 (g:Gd) (r c:Nat) (all:Bool):erFrom r c 0 all r=c∧erUpto g r c 0 all r=g.w:=by simp [erFrom,erUpto]
theorem er_1 (g:Gd) (r c:Nat) (all:Bool):erFrom r c 1 all r=0∧erUpto g r c 1 all r=(c:Int)+1:=by simp [erFrom,erUpto]
theorem er_2 (g:Gd) (r c:Nat) (all:Bool):erFrom r c 2 all r=0∧erUpto g r c 2 all r=g.w:=by simp [erFrom,erUpto]
theorem ref_erase {g:Gd} (h:RightG g) {r c:Nat} (hr:r<g.h) (hc:c<g.w) (what:Int) (hw:0≤what) (all:Bool) (p:Pn):refEr g r c what all p g.h=if all=true then eraseG g r c what p else lineG g r c what p:=by
 obtain ⟨o,_⟩:=h
 obtain ⟨o1,e1,e2,_⟩:=refEr_ok o r c what all p g.h (Nat.le_refl _)
 have hw1:=o.2.2.1
 have hwz:mnI (0:Int) (g.w:Int)≤0:=by unfold mnI;split<;>omega
 have full:∀ l:List Cel,mendL (wipeRow l (mxI 0 0).toNat (max (mxI 0 0) (mnI (g.w:Int) (g.w:Int))).toNat p)=mendL (wipeRow l 0 g.w p):=by
  intro l
  have b2:(max (mxI 0 0) (mnI (g.w:Int) (g.w:Int))).toNat=g.w:=by
   unfold mxI mnI
   simp
  rw [b2]
  rfl
 cases all with
 | true =>
  simp only [if_true]
  have er:=erTo_ok o hr c what p g.h (Nat.le_refl _)
  have hoe:OkG (eraseG g r c what p)∧(eraseG g r c what p).h=g.h∧(eraseG g r c what p).w=g.w:=by
   unfold eraseG
   split
   ·exact ⟨o,rfl,rfl⟩
   ·exact ⟨er.1,er.2.1,er.2.2.1⟩
  refine grid_ext hoe.1 o1 (by rw [e1,hoe.2.1]) (by rw [e2,hoe.2.2]) fun y hy=>?_
  rw [hoe.2.1] at hy
  rw [rowL_refEr o r c what true p hy g.h (Nat.le_refl _),if_pos hy]
  have hrow:=RightG.row ⟨o,by assumption⟩ hy
  by_cases h2:what>2
  ·have e:=er_big g r c what true y h2
   have e0:eraseG g r c what p=g:=by unfold eraseG;rw [if_pos (.inr h2)]
   rw [e.1,e.2,e0]
   exact wipe_no hrow p _ hwz
  have hcase:what=0∨what=1∨what=2:=by omega
  unfold eraseG
  rw [if_neg (by omega)]
  by_cases hyr:y=r
  ·subst hyr
   rw [rowL_erTo_self o hr c what p g.h (Nat.le_refl _)]
   rcases hcase with rfl | rfl | rfl
   ·rw [(er_0 g y c true).1,(er_0 g y c true).2]
    unfold lineG
    rw [if_pos rfl,rowL_wipeG o hr]
   ·rw [(er_1 g y c true).1,(er_1 g y c true).2]
    unfold lineG
    rw [if_neg (by decide),if_pos rfl,rowL_wipeG o hr]
   ·rw [(er_2 g y c true).1,(er_2 g y c true).2]
    unfold lineG
    rw [if_neg (by decide),if_neg (by decide),if_pos rfl,rowL_wipeG o hr]
  ·rw [rowL_erTo o hr c what p hy hyr g.h (Nat.le_refl _)]
   have a1:¬(what=0∧y=r):=fun hh=>hyr hh.2
   have a2:¬(what=1∧y=r):=fun hh=>hyr hh.2
   by_cases he:erIn what r y=true
   ·rw [if_pos ⟨hy,he⟩]
    have hn:¬(what>2∨(true=false∧y≠r)∨(what=0∧y<r)∨(what=1∧r<y)):=by
     unfold erIn at he
     simp at he
     simp
     omega
    unfold erFrom erUpto
    rw [if_neg hn,if_neg hn,if_neg a1,if_neg a1,if_neg a2]
    exact full _
   ·rw [if_neg (fun hh=>he hh.2)]
    have hp:what>2∨(true=false∧y≠r)∨(what=0∧y<r)∨(what=1∧r<y):=by
     unfold erIn at he
     simp at he
     omega
    unfold erFrom erUpto
    rw [if_pos hp,if_pos hp]
    exact wipe_no hrow p _ hwz
 | false =>
  simp only [Bool.false_eq_true,if_false]
  obtain ⟨o2,f1,f2,_⟩:=lineG_ok o hr c what p
  refine grid_ext o2 o1 (by rw [e1,f1]) (by rw [e2,f2]) fun y hy=>?_
  rw [f1] at hy
  rw [rowL_refEr o r c what false p hy g.h (Nat.le_refl _),if_pos hy]
  have hrow:=RightG.row ⟨o,by assumption⟩ hy
  by_cases hyr:y=r
  ·subst hyr
   by_cases h2:what>2
   ·have e:=er_big g y c what false y h2
    have e0:lineG g y c what p=g:=by unfold lineG;rw [if_neg (by omega),if_neg (by omega),if_neg (by omega)]
    rw [e.1,e.2,e0]
    exact wipe_no hrow p _ hwz
   have hcase:what=0∨what=1∨what=2:=by omega
   rcases hcase with rfl | rfl | rfl
   ·rw [(er_0 g y c false).1,(er_0 g y c false).2]
    unfold lineG
    rw [if_pos rfl,rowL_wipeG o hr]
   ·rw [(er_1 g y c false).1,(er_1 g y c false).2]
    unfold lineG
    rw [if_neg (by decide),if_pos rfl,rowL_wipeG o hr]
   ·rw [(er_2 g y c false).1,(er_2 g y c false).2]
    unfold lineG
    rw [if_neg (by decide),if_neg (by decide),if_pos rfl,rowL_wipeG o hr]
  ·rw [rowL_lineG_ne o hr hy hyr]
   have hp:what>2∨(false=false∧y≠r)∨(what=0∧y<r)∨(what=1∧r<y):= .inr (.inl ⟨rfl,hyr⟩)
   unfold erFrom erUpto
   rw [if_pos hp,if_pos hp]
   exact wipe_no hrow p _ hwz
set_option maxHeartbeats 8000000 in
theorem sp303 (k:Nat) (g:Gd) (o:OkG g) (hgl:g.cells.length≤100000) (r c:Nat) (hr:r<g.h) (hc:c<g.w) (what:Int) (hw:0≤what) (all:Bool) (p:Pn):evFun (clOf (modsR tab (k+3)) 3) s303 [gdD g,I r,I c,I what,B all,pnD p]=some (gdD (refEr g r c what all p g.h),[]):=by
 have hh:=o.2.1
 have hw1:=o.2.2.2.1
 have h0:refEr g r c what all p 0=g:=rfl
 rw [evFun_evB rfl]
 unfold s303
 simp -implicitDefEqProofs []
 refine evB_for (fun i=>[I r,I c,I what,B all,I g.h,I i, .obx [I g.h,I g.w, .sl 5 (celsD (refEr g r c what all p i).cells)], .obx [I p.f,I p.b,I p.g], .obx [I 0,I 0, .sn]]) g.h (.exit 0)
  [I r,I c,I what,B all,I g.h,I g.h, .obx [I g.h,I g.w, .sl 5 (celsD (refEr g r c what all p g.h).cells)], .obx [I p.f,I p.b,I p.g], .obx [I 0,I 0, .sn]] ?_ (fun i hi=>?_) ?_ (by simp) (by simp [rounds];omega) ?_
 ·simp -implicitDefEqProofs [h0]
 ·obtain ⟨oi,i1,i2,i3⟩:=refEr_ok o r c what all p i (by omega)
  obtain ⟨oj,j1,j2,j3⟩:=refEr_ok o r c what all p (i+1) (by omega)
  have v:=fun q=>sp298 q (refEr g r c what all p i) oi (by omega) i (by omega) (erFrom r c what all i) (erUpto g r c what all i) p
  have es:refEr g r c what all p (i+1)=wipeG (refEr g r c what all p i) i (erFrom r c what all i) (erUpto g r c what all i) p:=rfl
  rw [←es] at v
  generalize refEr g r c what all p (i+1)=G' at *
  generalize refEr g r c what all p i=G at *
  simp only [gdD,i1,i2] at v
  have hi':(i:Int)<g.h:=by omega
  have ec:wr ((c:Int)+1)=(c:Int)+1:=wr_id _ (by omega) (by omega)
  have ei:wr ((i:Int)+1)=(i:Int)+1:=wr_id _ (by omega) (by omega)
  clear es h0
  unfold erFrom erUpto at v
  by_cases h2:2<what
  ·rw [if_pos (.inl h2),if_pos (.inl h2)] at v
   simp -implicitDefEqProofs [hi,hi',h2,cw298,v,j1,j2,ei]
  by_cases ha:all=false∧i≠r
  ·have hne:¬(i:Int)=r:=by omega
   rw [if_pos (.inr (.inl ha)),if_pos (.inr (.inl ha))] at v
   have ha1:=ha.1
   have ha2:=ha.2
   subst ha1
   simp -implicitDefEqProofs [hi,hi',h2,ha2,hne,cw298,v,j1,j2,ei]
  have hall:all=true∨(all=false∧i=r):=by
   cases all with
   | true=>exact .inl rfl
   | false=>exact .inr ⟨rfl,Decidable.byContradiction fun hh=>ha ⟨rfl,hh⟩⟩
  have hcase:what=0∨what=1∨what=2:=by omega
  have hord:(i<r∧(i:Int)<r∧¬i=r∧¬(i:Int)=r∧¬r<i∧¬(r:Int)<i)∨(¬i<r∧¬(i:Int)<r∧i=r∧(i:Int)=r∧¬r<i∧¬(r:Int)<i)∨(¬i<r∧¬(i:Int)<r∧¬i=r∧¬(i:Int)=r∧r<i∧(r:Int)<i):=by omega
  rcases hall with hall | ⟨hall,hir⟩
  ·subst hall
   rcases hord with ⟨q1,q2,q3,q4,q5,q6⟩ | ⟨q1,q2,q3,q4,q5,q6⟩ | ⟨q1,q2,q3,q4,q5,q6⟩
   ·rcases hcase with rfl | rfl | rfl<;>(simp [q1,q3,q5] at v;simp -implicitDefEqProofs [hi,hi',q1,q2,q3,q4,q5,q6,cw298,v,j1,j2,ei])
   ·subst q3
    rcases hcase with rfl | rfl | rfl<;>(simp at v;simp -implicitDefEqProofs [hi,hi',cw298,v,j1,j2,ei,ec])
   ·rcases hcase with rfl | rfl | rfl<;>(simp [q1,q3,q5] at v;simp -implicitDefEqProofs [hi,hi',q1,q2,q3,q4,q5,q6,cw298,v,j1,j2,ei])
  ·subst hall
   subst hir
   rcases hcase with rfl | rfl | rfl<;>(simp at v;simp -implicitDefEqProofs [hi,hi',cw298,v,j1,j2,ei,ec])
 ·simp -implicitDefEqProofs []
 ·obtain ⟨oN,n1,n2,n3⟩:=refEr_ok o r c what all p g.h (Nat.le_refl _)
  generalize refEr g r c what all p g.h=G at *
  simp -implicitDefEqProofs [n1,n2]
end Go.Proofs.YtlpchliomdomdaaGreat.LgTab
namespace Go.Proofs.YtlpchliomdomdaaGreat.LgTab
open Go Lg
set_option linter.unusedVariables false
set_option linter.unusedSimpArgs false
set_option maxRecDepth 8000
theorem t_shl64 (c:Int) (h0:0≤c) (h1:c<64):binD .shl (T64 1) (T64 c)=some (T64 (bitN c)):=by
 have h:=t_shl c h0 h1
 unfold binD at h ⊢
 exact h
theorem wrap_u64c (c:Int) (h0:0≤c) (h1:c≤1000):IntKind.u64.wrap c=c:=wrap_u64 _ h0 (by omega)
theorem has_shr (t c:Nat) (hc:c<64):hasT t c=decide (t / 2 ^ c % 2=1):=by
 rw [hasT_bit t c hc,Nat.testBit_eq_decide_div_mod_eq]
theorem t_shr64 (t c:Nat) (ht:t<2 ^ 64) (hc:c<64):binD .shr (T64 t) (T64 c)=some (T64 ((t / 2 ^ c:Nat):Int)):=by
 have e:shI .shr .u64 (t:Int) (c:Int)=some (.int .u64 ((t / 2 ^ c:Nat):Int)):=by
  unfold shI
  simp only
  rw [if_neg (by omega)]
  have hm:min ((c:Int)).toNat 64=c:=by omega
  have hf:(t:Int).fdiv (2 ^ c)=((t / 2 ^ c:Nat):Int):=by
   rw [Int.fdiv_eq_ediv_of_nonneg _ (by exact Int.le_of_lt (Int.pow_pos (by omega)))]
   simp
  show some (Value.int .u64 ((t:Int).fdiv (2 ^ (min ((c:Int)).toNat 64))))=_
  rw [hm,hf]
 simp [binD,e]
set_option maxHeartbeats 2000000 in
theorem sp297 (k:Nat) (cols:Nat) (hc:1≤cols∧cols≤60):evFun (clOf (modsR tab k) 3) s297 [I cols]=some (T64 (newT cols),[]):=by
 obtain ⟨N,hN⟩:∃ N,N=(min cols 64-1) / 8:=⟨_,rfl⟩
 have e:newT cols=newTo N:=by rw [hN];rfl
 have hN2:N=(cols-1) / 8:=by rw [hN];congr 2;omega
 rw [e,evFun_evB rfl]
 unfold s297
 simp -implicitDefEqProofs []
 refine evB_for (fun i=>[I cols,T64 (newTo i),I (8+8*(i:Int))]) N (.exit 0) [I cols,T64 (newTo N),I (8+8*(N:Int))] ?_ (fun i hi=>?_) ?_ (by simp) (by simp [rounds];omega) ?_
 ·simp -implicitDefEqProofs [newTo]
 ·have w2:=t_or (newTo i) (bitN (8+8*(i:Int))) (newTo_lt i) (bitN_lt _)
  have w3:newTo (i+1)=newTo i ||| bitN (8+8*(i:Int)):=rfl
  rw [←w3] at w2
  have hlt:8+8*(i:Int)<cols:=by omega
  have e1:wr (8+8*(i:Int)+8)=8+8*((i:Int)+1):=by rw [wr_id _ (by omega) (by omega)];omega
  have e2:=wrap_u64c (8+8*(i:Int)) (by omega) (by omega)
  have e3:=t_shl64 (8+8*(i:Int)) (by omega) (by omega)
  generalize newTo (i+1)=x at *
  simp -implicitDefEqProofs [hlt,e2,e3,w2,e1]
 ·have hlt2:¬8+8*(N:Int)<cols:=by omega
  generalize newTo N=x at *
  simp -implicitDefEqProofs [hlt2]
 ·generalize newTo N=x at *
  simp -implicitDefEqProofs []
theorem find_congr' {α:Type} {p q:α→Bool}:∀ {l:List α},(∀ x,x∈l→p x=q x)→l.find? p=l.find? q
 | [],_=>rfl
 | x :: l,h=>by
  rw [List.find?_cons,List.find?_cons,h x (by simp),find_congr' fun y hy=>h y (by simp [hy])]
theorem nextT_skip' {t c:Nat} {w:Int} (h:hasT t c=false):nextT t ((c:Int)-1) w=nextT t c w:=by
 unfold nextT
 congr 1
 apply find_congr'
 intro x hx
 unfold tabL tabTo at hx
 simp only [List.mem_map,List.mem_filter,List.mem_range] at hx
 obtain ⟨d,⟨hd,ht⟩,rfl⟩:=hx
 have hne:d≠c:=by
  rintro rfl
  rw [h] at ht
  cases ht
 have e:decide ((c:Int)-1<(d:Int))=decide ((c:Int)<(d:Int)):=by
  apply decide_eq_decide.2
  omega
 rw [e]
set_option maxHeartbeats 2000000 in
theorem sp289 (k:Nat) (t:Nat) (ht:t<2 ^ 64) (col cols:Nat) (h:col<cols) (hc:cols≤60):evFun (clOf (modsR tab k) 3) s289 [T64 t,I col,I cols]=some (I (nextT t col cols),[]):=by
 rw [evFun_evB rfl]
 unfold s289
 simp -implicitDefEqProofs [wr_id ((col:Int)+1) (by omega) (by omega)]
 refine evB_inv (P:=fun o=>o=some (I (nextT t col cols),[])) (σ:=Nat) (fun i=>[T64 t,I cols,I 0,I ((col+1+i:Nat):Int)]) (fun i=>cols-i) (fun i=>col+1+i≤cols∧nextT t col cols=nextT t ((col+i:Nat):Int) cols)
  (fun ex r=>(ex = .exit 0∧nextT t col cols=(cols:Int)-1∧∃ c:Int,r=[T64 t,I cols,I 0,I c])∨(ex = .ret∧∃ c:Int,nextT t col cols=c∧r=[T64 t,I cols,I c,I c])) 0 ?_ ⟨by omega,rfl⟩ (by simp [rounds];omega) ?_ ?_
 ·simp -implicitDefEqProofs []
 ·rintro i ⟨h1,h2⟩
  by_cases h3:col+1+i=cols
  ·right
   have e:nextT t col cols=(cols:Int)-1:=by
    rw [h2]
    exact nextT_none fun c _ _=>by omega
   refine ⟨.exit 0,[T64 t,I cols,I 0,I ((col+1+i:Nat):Int)],?_,by simp, .inl ⟨rfl,e,_,rfl⟩⟩
   have h4:¬((col+1+i:Nat):Int)<cols:=by omega
   have h5:¬col+1+i<cols:=by omega
   generalize col+1+i=c at *
   simp -implicitDefEqProofs [h4,h5]
  ·obtain ⟨c,hcc⟩:∃ c,c=col+1+i:=⟨_,rfl⟩
   have h4:(c:Int)<cols:=by omega
   have h5:c<cols:=by omega
   have e1:=wrap_u64c (c:Int) (by omega) (by omega)
   have e2:=t_shr64 t c ht (by omega)
   have hd:t / 2 ^ c<2 ^ 64:=Nat.lt_of_le_of_lt (Nat.div_le_self _ _) ht
   have e3:binD .and (T64 ((t / 2 ^ c:Nat):Int)) (T64 1)=some (T64 ((t / 2 ^ c % 2:Nat):Int)):=by
    have:=t_and (t / 2 ^ c) 1 hd (by omega)
    rw [Nat.and_one_is_mod] at this
    exact this
   have hb:=has_shr t c (by omega)
   rw [←hcc]
   have e4:wr ((c:Int)+1)=((c+1:Nat):Int):=by rw [wr_id _ (by omega) (by omega)];omega
   obtain ⟨X,hX⟩:∃ X:Int,X=((t / 2 ^ c:Nat):Int):=⟨_,rfl⟩
   obtain ⟨Y,hY⟩:∃ Y:Int,Y=((t / 2 ^ c % 2:Nat):Int):=⟨_,rfl⟩
   have hYb:(Y=1)↔t / 2 ^ c % 2=1:=by rw [hY];omega
   rw [←hX] at e2 e3
   rw [←hY] at e3
   by_cases hz:t / 2 ^ c % 2=1
   ·right
    have hh:hasT t c=true:=by rw [hb];exact decide_eq_true hz
    have e:nextT t col cols=(c:Int):=by
     rw [h2]
     exact nextT_some (by omega) hh (by omega) h4 fun d hd _=>by omega
    have hy1:Y=1:=hYb.2 hz
    refine ⟨.ret,[T64 t,I cols,I c,I c],?_,by simp, .inr ⟨rfl,_,e,rfl⟩⟩
    clear hX hY
    simp -implicitDefEqProofs [h4,h5,e1,e2,e3,eq_true hy1]
   ·left
    have hh:hasT t c=false:=by rw [hb];exact decide_eq_false hz
    have hy1:¬Y=1:=fun hh=>hz (hYb.1 hh)
    refine ⟨i+1,?_,by omega,by omega,?_⟩
    ·have e5:col+1+(i+1)=c+1:=by omega
     rw [e5]
     clear hX hY
     simp -implicitDefEqProofs [h4,h5,e1,e2,e3,hy1,e4]
    ·rw [h2]
     have e6:((col+i:Nat):Int)=(c:Int)-1:=by omega
     have e7:((col+(i+1):Nat):Int)=(c:Int):=by omega
     rw [e6,e7]
     exact nextT_skip' hh
 ·rintro ex r (⟨rfl,h1,c,rfl⟩ | ⟨rfl,c,h1,rfl⟩)
  ·rw [h1]
   simp -implicitDefEqProofs [wr_id ((cols:Int)-1) (by omega) (by omega)]
  ·rw [h1]
   simp -implicitDefEqProofs []
def wideI:List D:=wideL.map fun x=> .agg [I x.1,I x.2]
theorem sp256 (k:Nat):evFun (clOf (modsR tab k) 3) s256 []=some (.osl true 2 wideI,[]):=by
 rw [evFun_evB rfl]
 unfold s256
 simp -implicitDefEqProofs [wideI,wideL]
theorem narrow_iff (r:Int):narrowR r=true↔r<32∨(127≤r∧r<160)∨(768≤r∧r≤879)∨1114111<r∨(55296≤r∧r≤57343):=by
 unfold narrowR
 simp only [Bool.or_eq_true,Bool.and_eq_true,decide_eq_true_eq]
 omega
set_option maxHeartbeats 4000000 in
theorem sp251 (k:Nat) (r:Int) (hr : -2147483648≤r∧r≤2147483647):evFun (clOf (modsR tab (k+1)) 3) s251 [R r]=some (I (widthR r),[]):=by
 have e0:IntKind.i64.wrap r=r:=wrap_id _ (by omega) (by omega)
 have w256:=fun q=>sp256 q
 cases hn:narrowR r with
 | true =>
  have ew:widthR r=0:=by unfold widthR;rw [hn];rfl
  rw [ew]
  have hc:=(narrow_iff r).1 hn
  clear hn ew
  rw [evFun_evB rfl]
  unfold s251
  by_cases h1:r<32
  ·simp -implicitDefEqProofs [e0,h1]
  have h1':¬r<32:=h1
  by_cases h2:127≤r
  ·by_cases h3:r<160
   ·simp -implicitDefEqProofs [e0,h1,h2,h3]
   ·by_cases h4:768≤r
    ·by_cases h5:r≤879
     ·simp -implicitDefEqProofs [e0,h1,h2,h3,h4,h5]
     ·by_cases h6:1114111<r
      ·simp -implicitDefEqProofs [e0,h1,h2,h3,h4,h5,h6]
      ·have h7:55296≤r:=by omega
       have h8:r≤57343:=by omega
       simp -implicitDefEqProofs [e0,h1,h2,h3,h4,h5,h6,h7,h8]
    ·omega
  ·omega
 | false =>
  have ew:widthR r=if wideR r then 2 else 1:=by unfold widthR;rw [hn];rfl
  rw [ew]
  have hc:¬(r<32∨(127≤r∧r<160)∨(768≤r∧r≤879)∨1114111<r∨(55296≤r∧r≤57343)):=fun h=>by rw [(narrow_iff r).2 h] at hn;cases hn
  clear hn ew
  have hlen:wideI.length=9:=rfl
  have hpl:plains wideI=true:=rfl
  have hro:isROs wideI=true:=rfl
  rw [evFun_evB rfl]
  unfold s251
  have h1:¬r<32:=by omega
  have h6:¬1114111<r:=by omega
  have pre:(127≤r∧¬r<160)∨¬127≤r:=by omega
  have pre2:(768≤r∧¬r≤879)∨¬768≤r:=by omega
  have pre3:(55296≤r∧¬r≤57343)∨¬55296≤r:=by omega
  have g2:(decide (127≤r) && decide (r<160))=false:=by rcases pre with ⟨_,h⟩ | h<;>simp [h]
  generalize hW:wideI=W at *
  have gW:∀ i,i<9→∃ a b,wideL[i]? = some (a,b)∧W[i]? = some (.agg [I a,I b]):=by
   intro i hi
   obtain ⟨a,b,hab⟩:=wideL_get i hi
   exact ⟨a,b,hab,by rw [←hW];simp [wideI,hab]⟩
  clear hW
  have tW:W.take 9=W:=List.take_of_length_le (by omega)
  rcases pre with ⟨p1,p2⟩ | p1<;>rcases pre2 with ⟨p3,p4⟩ | p3<;>rcases pre3 with ⟨p5,p6⟩ | p5<;>(try omega)
  all_goals (simp -implicitDefEqProofs [e0,h1,h6, *,-gW,cw256,cr256,w256,hlen,hpl,hro])
  all_goals (
   refine evB_inv (P:=fun o=>o=some (I (if wideR r then 2 else 1),[])) (σ:=Nat) (fun i=>[I 0,I r, .sl 2 W,I 9,I i]) (fun i=>9-i) (fun i=>i≤9∧∀ j,j<i→∀ a b,wideL[j]? = some (a,b)→¬(a≤r∧r≤b))
    (fun ex t=>(ex = .exit 0∧wideR r=false∧t=[I 0,I r, .sl 2 W,I 9,I 9])∨(ex = .ret∧wideR r=true∧∃ i:Int,t=[I 2,I r, .sl 2 W,I 9,I i])) 0 ?_ ⟨by omega,by omega⟩ (by simp [rounds]) ?_ ?_
   ·simp -implicitDefEqProofs [hlen,tW]
   ·rintro i ⟨hi,hj⟩
    by_cases h9:i=9
    ·right
     subst h9
     refine ⟨_,_,?_,by simp, .inl ⟨rfl,?_,rfl⟩⟩
     ·simp -implicitDefEqProofs []
     ·rw [Bool.eq_false_iff]
      intro h
      obtain ⟨j,a,b,h1,h2⟩:=(wideR_iff r).1 h
      exact hj j (by have:=(List.getElem?_eq_some_iff.1 h1).1;simpa [wideL] using this) a b h1 h2
    ·obtain ⟨a,b,hab,hg⟩:=gW i (by omega)
     have hg':=get_of hg
     have e1:wr ((i:Int)+1)=((i+1:Nat):Int):=by rw [wr_id _ (by omega) (by omega)];omega
     have hlt:(i:Int)<9:=by omega
     have hlt':i<9:=by omega
     by_cases ha:a≤r
     ·by_cases hb:r≤b
      ·right
       refine ⟨.ret,[I 2,I r, .sl 2 W,I 9,I i],?_,by simp, .inr ⟨rfl,(wideR_iff r).2 ⟨i,a,b,hab,ha,hb⟩,_,rfl⟩⟩
       simp -implicitDefEqProofs [hlt,hg,hg',hlen,hlt',ha,hb]
      ·left
       refine ⟨i+1,?_,by omega,by omega,fun j hj' c d hcd=>?_⟩
       ·simp -implicitDefEqProofs [hlt,hg,hg',hlen,hlt',ha,hb,e1]
       ·by_cases hj2:j=i
        ·subst hj2
         rw [hab] at hcd
         simp only [Option.some.injEq,Prod.mk.injEq] at hcd
         obtain ⟨rfl,rfl⟩:=hcd
         omega
        ·exact hj j (by omega) c d hcd
     ·left
      refine ⟨i+1,?_,by omega,by omega,fun j hj' c d hcd=>?_⟩
      ·simp -implicitDefEqProofs [hlt,hg,hg',hlen,hlt',ha,e1]
      ·by_cases hj2:j=i
       ·subst hj2
        rw [hab] at hcd
        simp only [Option.some.injEq,Prod.mk.injEq] at hcd
        obtain ⟨rfl,rfl⟩:=hcd
        omega
       ·exact hj j (by omega) c d hcd
   ·rintro ex t (⟨rfl,h,rfl⟩ | ⟨rfl,h,i,rfl⟩)
    ·rw [h]
     simp -implicitDefEqProofs []
    ·rw [h]
     simp -implicitDefEqProofs [])
theorem sp244 (k:Nat):evFun (clOf (modsR tab k) 3) s244 []=some (.osl true 1 drawD,[]):=by
 rw [evFun_evB rfl]
 unfold s244
 simp -implicitDefEqProofs [drawD,drawL]
end Go.Proofs.YtlpchliomdomdaaGreat.LgTab
