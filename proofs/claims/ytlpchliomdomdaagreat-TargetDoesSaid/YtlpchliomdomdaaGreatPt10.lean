import Derived.Test.YtlpchliomdomdaaGreatPt9
namespace Go.Proofs.YtlpchliomdomdaaGreat.LgTab
open Go Lg
set_option linter.unusedVariables false
set_option linter.unusedSimpArgs false
set_option maxRecDepth 8000
theorem setRow_set2 {g:Gd} (o:OkG g) {r:Nat} (hr:r<g.h) {L:List Cel} (hL:L.length=g.w) {c:Nat} (hc:c<g.w) (y:Cel):(setRow g r L).cells.set (rowOff g r+c) y=(setRow g r (L.set c y)).cells:=by
 have h:=row_in o hr
 unfold setRow
 simp only
 have e1:(g.cells.take (rowOff g r)).length=rowOff g r:=by simp;omega
 rw [List.append_assoc,List.append_assoc,List.set_append_right _ _ (by omega),e1,Nat.add_sub_cancel_left,List.set_append_left _ _ (by omega)]
theorem rowL_setRow {g:Gd} (o:OkG g) {r:Nat} (hr:r<g.h) {L:List Cel} (hL:L.length=g.w):rowL (setRow g r L) r=L:=by
 have h:=row_in o hr
 have e1:(g.cells.take (rowOff g r)).length=rowOff g r:=by simp;omega
 have e2:rowOff (setRow g r L) r=rowOff g r:=by unfold setRow;rw [rowOff_cells]
 unfold rowL
 rw [e2]
 unfold setRow
 simp only
 rw [List.append_assoc,List.drop_append,e1,Nat.sub_self,List.drop_of_length_le (by omega)]
 simp [←hL]
theorem setRow_setRow {g:Gd} (o:OkG g) {r:Nat} (hr:r<g.h) {L:List Cel} (hL:L.length=g.w) (X:List Cel):setRow (setRow g r L) r X=setRow g r X:=by
 have h:=row_in o hr
 have e1:(g.cells.take (rowOff g r)).length=rowOff g r:=by simp;omega
 unfold setRow
 simp only [rowOff_cells]
 congr 2
 ·congr 1
  rw [List.append_assoc,List.take_append,e1,Nat.sub_self,List.take_zero,List.append_nil,List.take_of_length_le (by omega)]
 ·rw [List.append_assoc,List.drop_append,List.drop_append,e1,List.drop_of_length_le (by simp;omega)]
  rw [List.drop_of_length_le (by omega)]
  simp
  congr 1
  omega
theorem setRow_self {g:Gd} (o:OkG g) {r:Nat} (hr:r<g.h):setRow g r (rowL g r)=g:=by
 unfold setRow rowL
 have e:List.take (rowOff g r) g.cells++List.take g.w (List.drop (rowOff g r) g.cells)++List.drop (rowOff g r+g.w) g.cells=g.cells:=by
  rw [←List.drop_drop,List.append_assoc,List.take_append_drop,List.take_append_drop]
 rw [e]
def wipeRow (l:List Cel) (a b:Nat) (p:Pn):List Cel:=l.mapIdx fun j x=>if a≤j∧j<b then blankC p else x
@[simp] theorem wipeRow_len (l:List Cel) (a b:Nat) (p:Pn):(wipeRow l a b p).length=l.length:=by simp [wipeRow]
theorem wipeRow_0 (l:List Cel) (a:Nat) (p:Pn):wipeRow l a a p=l:=by
 unfold wipeRow
 apply List.ext_getElem?
 intro i
 rw [List.getElem?_mapIdx]
 cases l[i]? with
 | none=>rfl
 | some x=>simp;omega
theorem wipeRow_succ (l:List Cel) (a b:Nat) (p:Pn) (hab:a≤b) (hb:b<l.length):wipeRow l a (b+1) p=(wipeRow l a b p).set b (blankC p):=by
 unfold wipeRow
 apply List.ext_getElem?
 intro i
 rw [List.getElem?_set,List.getElem?_mapIdx,List.getElem?_mapIdx]
 by_cases e:b=i
 ·subst e
  simp [hb,hab,List.getElem?_eq_getElem hb]
 ·rw [if_neg e]
  cases l[i]? with
  | none=>rfl
  | some x =>
   have:(a≤i∧i<b+1)=(a≤i∧i<b):=by apply propext;omega
   simp [this]
def wipeG (g:Gd) (r:Nat) (a b:Int) (p:Pn):Gd:=setRow g r (mendL (wipeRow (rowL g r) (mxI a 0).toNat (max (mxI a 0) (mnI b g.w)).toNat p))
set_option maxHeartbeats 1000000 in
theorem sp157 (k:Nat) (g:Gd) (o:OkG g) (hl:g.cells.length≤100000) (r:Nat) (hr:r<g.h) (a b:Int) (p:Pn) (ha : -1000000≤a∧a≤1000000) (hb : -1000000≤b∧b≤1000000):evFun (clOf (modsR tab (k+2)) 3) s157 [gdD g,I r,I a,I b,pnD p]=some (gdD (wipeG g r a b p),[]):=by
 have w1:=sp158 k g o hl
 have w3:=sp162 (k+1) g r 0
 have hr':(r:Int)<g.h:=by omega
 have hw0:(0:Int)<g.w:=by have:=o.2.2.1;omega
 simp only [hr',hw0,Int.natCast_nonneg,decide_true,Bool.and_true,Int.le_refl] at w3
 have hw:=o.2.2.2.1
 have wi:=fun q H n=>iw163r q n H g o 3 r hr
 have e4:=row_in o hr
 have hrl:=rowL_len o hr
 obtain ⟨A,hA⟩:∃ A:Nat,mxI a 0=A:=⟨(mxI a 0).toNat,by unfold mxI;split<;>omega⟩
 have hA':(A:Int)≤1000000:=by rw [←hA];unfold mxI;split<;>omega
 obtain ⟨Z,hZ⟩:∃ Z,mnI b g.w=Z:=⟨_,rfl⟩
 have hZ1:Z≤g.w:=by rw [←hZ];unfold mnI;split<;>omega
 obtain ⟨N,hN⟩:∃ N:Nat,N=(max (A:Int) Z).toNat-A:=⟨_,rfl⟩
 have hG:wipeG g r a b p=setRow g r (mendL (wipeRow (rowL g r) A (A+N) p)):=by
  unfold wipeG
  have e:(max (A:Int) Z).toNat=A+N:=by omega
  rw [hA,hZ,e,Int.toNat_natCast]
 have hlen:∀ L:List Cel,L.length=g.w→(setRow g r L).cells.length=g.cells.length:=by
  intro L hL
  simp [setRow]
  omega
 have ho:∀ L:List Cel,L.length=g.w→OkG (setRow g r L):=fun L hL=>o.setRow hr L hL
 rw [hG]
 rw [evFun_evB rfl]
 unfold s157
 simp -implicitDefEqProofs [cw158,w1,cw162,w3,wi,hA,hZ]
 refine evB_forR (fun i=>([(1,I r),(3,I b),(12,I ((A+i:Nat):Int)),(5, .pt 0 0 0 0),(9, .pt 1 0 0 0),(10, .pt 2 0 0 0),(11, .rf 3 5 (rowOff g r) g.w)],
  [.bx [I g.h,I g.w, .rf 3 5 0 g.cells.length], .bx [I p.f,I p.b,I p.g], .bx [I 0,I 0, .sn], .ow true 5 (celsD (setRow g r (wipeRow (rowL g r) A (A+i) p)).cells), .bx [I g.h,I g.w, .rf 3 5 0 g.cells.length]])) N (.exit 0)
  ([(1,I r),(3,I b),(12,I ((A+N:Nat):Int)),(5, .pt 0 0 0 0),(9, .pt 1 0 0 0),(10, .pt 2 0 0 0),(11, .rf 3 5 (rowOff g r) g.w)],
  [.bx [I g.h,I g.w, .rf 3 5 0 g.cells.length], .bx [I p.f,I p.b,I p.g], .bx [I 0,I 0, .sn], .ow true 5 (celsD (setRow g r (wipeRow (rowL g r) A (A+N) p)).cells), .bx [I g.h,I g.w, .rf 3 5 0 g.cells.length]]) ?_ (fun i hi=>?_) ?_ (by simp) (by simp [rounds];omega) ?_
 ·simp -implicitDefEqProofs [wipeRow_0,setRow_self o hr]
 ·have hc:A+i<g.w:=by omega
  have es:=setRow_set2 o hr (L:=wipeRow (rowL g r) A (A+i) p) (by simpa using hrl) hc (blankC p)
  rw [←wipeRow_succ _ _ _ _ (by omega) (by omega)] at es
  have hl':=hlen (wipeRow (rowL g r) A (A+i) p) (by simpa using hrl)
  obtain ⟨y,hy⟩:=get_ex (l:=(setRow g r (wipeRow (rowL g r) A (A+i) p)).cells) (i:=rowOff g r+(A+i)) (by omega)
  have gy:=celsD_getD hy
  have w106:=sp106 (k+1) p
  have hlt:((A+i:Nat):Int)<Z:=by omega
  have hi0:(0:Int)≤((A+i:Nat):Int):=by omega
  have e1:wr (((A+i:Nat):Int)+1)=((A+(i+1):Nat):Int):=by rw [wr_id _ (by omega) (by omega)];omega
  have et:A+(i+1)=A+i+1:=rfl
  rw [et] at e1 ⊢
  generalize setRow g r (wipeRow (rowL g r) A (A+i+1) p)=G' at *
  generalize setRow g r (wipeRow (rowL g r) A (A+i) p)=G at *
  generalize A+i=c at *
  simp only [blankC] at es w106
  simp -implicitDefEqProofs [hZ,hlt,hc,cw106,w106,gy,es,e1,hi0]
 ·have hge:¬((A:Int)+(N:Int))<Z:=by omega
  simp -implicitDefEqProofs [hZ,hge]
 ·have hL:(wipeRow (rowL g r) A (A+N) p).length=g.w:=by simpa using hrl
  have wm:=fun q n H x y=>iw161 q n H (setRow g r (wipeRow (rowL g r) A (A+N) p)) (ho _ hL) (by rw [hlen _ hL];exact hl) 3 x y r hr
  have hl1:=hlen _ hL
  have hl2:=hlen (mendL (wipeRow (rowL g r) A (A+N) p)) (by simpa using hrl)
  simp only [rowL_setRow o hr hL,setRow_setRow o hr hL,hl1] at wm
  generalize hM:setRow g r (mendL (wipeRow (rowL g r) A (A+N) p))=M at *
  have m1:M.h=g.h:=by rw [←hM];rfl
  have m2:M.w=g.w:=by rw [←hM];rfl
  generalize hX:setRow g r (wipeRow (rowL g r) A (A+N) p)=X at *
  have x1:X.h=g.h:=by rw [←hX];rfl
  have x2:X.w=g.w:=by rw [←hX];rfl
  rw [x1,x2] at wm
  have tk:M.cells.take g.cells.length=M.cells:=List.take_of_length_le (by omega)
  simp -implicitDefEqProofs [wm,m1,m2,hl2,tk]
end Go.Proofs.YtlpchliomdomdaaGreat.LgTab
namespace Go.Proofs.YtlpchliomdomdaaGreat.LgTab
open Go Lg
set_option linter.unusedVariables false
set_option linter.unusedSimpArgs false
set_option maxRecDepth 8000
theorem wrap_u64 (n:Int) (h0:0≤n) (h1:n<18446744073709551616):IntKind.u64.wrap n=n:=by
 have e1:IntKind.u64.wrap n=n % 18446744073709551616:=rfl
 rw [e1]
 omega
theorem q_add (a b:Int) (h0:0≤a+b) (h1:a+b<18446744073709551616):binD .add (T64 a) (T64 b)=some (T64 (a+b)):=by simp [binD,binI,wrap_u64 _ h0 h1]
theorem q_mul (a b:Int) (h0:0≤a*b) (h1:a*b<18446744073709551616):binD .mul (T64 a) (T64 b)=some (T64 (a*b)):=by simp [binD,binI,wrap_u64 _ h0 h1]
theorem q_and (a:Int) (h0:0≤a) (h1:a<4294967296):binD .and (T64 a) (T64 4294967295)=some (T64 a):=by
 show some (T64 (IntKind.u64.wrap ((BitVec.ofInt 64 a &&& BitVec.ofInt 64 4294967295).toNat:Int)))=_
 obtain ⟨n,rfl⟩:=Int.eq_ofNat_of_zero_le h0
 have e:(BitVec.ofInt 64 (n:Int) &&& BitVec.ofInt 64 4294967295).toNat=n:=by
  rw [BitVec.toNat_and,BitVec.toNat_ofInt,BitVec.toNat_ofInt]
  have e1:((n:Int) % ((2 ^ 64:Nat):Int)).toNat=n:=by omega
  have e2:((4294967295:Int) % ((2 ^ 64:Nat):Int)).toNat=2 ^ 32-1:=by decide
  rw [e1,e2,Nat.and_two_pow_sub_one_eq_mod]
  omega
 rw [e,wrap_u64 _ (by omega) (by omega)]
theorem q_shr (a:Int) (h0:0≤a) (h1:a<4294967296):binD .shr (T64 a) (T64 32)=some (T64 0):=by
 have e:a.fdiv (2 ^ (min (32:Int).toNat 64))=0:=by
  have:(2:Int) ^ (min (32:Int).toNat 64)=4294967296:=by decide
  rw [this,Int.fdiv_eq_ediv_of_nonneg _ (by omega)]
  omega
 have e2:shI .shr .u64 a 32=some (.int .u64 0):=by
  unfold shI
  simp only
  rw [if_neg (by omega)]
  show some (Value.int .u64 (a.fdiv (2 ^ (min (32:Int).toNat 64))))=_
  rw [e]
 simp [binD,e2]
theorem sp445 (k:Nat) (n:Int) (h0:0≤n) (h1:n<4294967296):evFun (clOf (modsR tab k) 3) s445 [T64 1,T64 n]=some (.tup [T64 0,T64 n],[]):=by
 rw [evFun_evB rfl]
 unfold s445
 simp -implicitDefEqProofs [q_and 1 (by omega) (by omega),q_shr 1 (by omega) (by omega),q_and n h0 h1,q_shr n h0 h1,q_mul 1 n (by omega) (by omega),q_mul 0 n (by omega) (by omega),q_add 0 0 (by omega) (by omega),q_and 0 (by omega) (by omega),q_shr 0 (by omega) (by omega),q_mul 1 0 (by omega) (by omega),q_mul 0 0 (by omega) (by omega)]
theorem sp443 (k:Nat) (n:Int) (h0:0≤n) (h1:n<4294967296):evFun (clOf (modsR tab (k+1)) 3) s443 [T64 1,T64 n]=some (.tup [T64 0,T64 n],[]):=by
 rw [evFun_evB rfl]
 unfold s443
 simp -implicitDefEqProofs [cw445,sp445 _ n h0 h1]
def filL (x:Cel) (N n:Nat):List Cel:=List.replicate n x++List.replicate (N-n) ⟨0,0,⟨0,0,0⟩⟩
theorem filL_len (x:Cel) {N n:Nat} (h:n≤N):(filL x N n).length=N:=by simp [filL];omega
theorem filL_take (x:Cel) {N n:Nat}:(filL x N n).take n=List.replicate n x:=by unfold filL;rw [List.take_append_of_le_length (by simp),List.take_of_length_le (by simp)]
theorem filL_next (x:Cel) {N n:Nat} (h:n≤N):List.replicate n x++(List.replicate (min n (N-n)) x++(filL x N n).drop (n+min n (N-n)))=filL x N (n+min n (N-n)):=by
 unfold filL
 rw [List.drop_append,List.length_replicate,List.drop_of_length_le (by simp),List.nil_append,List.drop_replicate,←List.append_assoc,List.replicate_append_replicate]
 rw [show n+min n (N-n)-n=min n (N-n) by omega,show N-n-min n (N-n)=N-(n+min n (N-n)) by omega]
set_option maxHeartbeats 1000000 in
theorem sp465 (k:Nat) (x:Cel) (N:Nat) (h0:1≤N) (h1:N≤1000000):evFun (clOf (modsR tab (k+2)) 3) s465 [.sl 5 (celsD [x]),I N]=some (.osl true 5 (celsD (List.replicate N x)),[]):=by
 have w:=sp443 k N (by omega) (by omega)
 have e0:IntKind.u64.wrap 1=1:=rfl
 have e1:IntKind.u64.wrap (N:Int)=N:=wrap_u64 _ (by omega) (by omega)
 have e2:IntKind.i64.wrap (N:Int)=N:=wrap_id _ (by omega) (by omega)
 have e3:(N:Int)*40≤140737488355328:=by omega
 have e3':N*40≤140737488355328:=by omega
 have hm:min 1 N=1:=by omega
 have hn0:¬(N:Int)<0:=by omega
 have hn1:¬(9223372036854775807:Int)<N:=by omega
 have h0':N≠0:=by omega
 rw [evFun_evB rfl]
 unfold s465
 simp -implicitDefEqProofs [cw443,w,e0,e1,e2,e3,e3',hn0,hn1,hm,h0']
 refine evB_run (fun n:Nat=>[I n, .osl true 5 (celsD (filL x N n))]) (fun n=>N-n) (fun _=>(.exit 0,[I N, .osl true 5 (celsD (List.replicate N x))])) (fun n=>1≤n∧n≤N) 1 ?_ ⟨by omega,h0⟩ (by simp [rounds];omega) ?_ ?_
 ·simp -implicitDefEqProofs [filL,h0,hm]
 ·rintro n ⟨hn,hN⟩
  have hl:=filL_len x hN
  have hl2:=filL_len x (N:=N) (n:=n+min n (N-n)) (by omega)
  by_cases hlt:n<N
  ·left
   refine ⟨n+min n (N-n),?_,by omega,rfl,by omega,by omega⟩
   have hlt':(n:Int)<N:=by omega
   have hle:n≤N:=hN
   have ht:=filL_take x (N:=N) (n:=n)
   have hx:=filL_next x hN
   have ea:wr ((n:Int)+((min n (N-n):Nat):Int))=((n+min n (N-n):Nat):Int):=by rw [wr_id _ (by omega) (by omega)];omega
   generalize filL x N (n+min n (N-n))=F' at *
   generalize filL x N n=F at *
   simp -implicitDefEqProofs [hl,hl2,hlt',hle,ht,ea,hx]
  ·right
   have:n=N:=by omega
   subst this
   refine ⟨?_,by simp⟩
   have hf:filL x n n=List.replicate n x:=by simp [filL]
   simp -implicitDefEqProofs [hf]
 ·simp -implicitDefEqProofs []
theorem sp143 (k:Nat) (N:Nat) (h0:1≤N) (h1:N≤1000000) (p:Pn):evFun (clOf (modsR tab (k+3)) 3) s143 [I N,pnD p]=some (.osl true 5 (celsD (List.replicate N (blankC p))),[]):=by
 have w:=sp465 k (blankC p) N h0 h1
 have w2:=sp106 (k+2) p
 have e:celsD [blankC p]=[celD (blankC p)]:=rfl
 rw [e] at w
 simp only [blankC] at w w2 ⊢
 rw [evFun_evB rfl]
 unfold s143
 simp -implicitDefEqProofs [cw106,w2,cw465,w]
def newG (h w:Nat) (p:Pn):Gd:=⟨h,w,List.replicate (h*w) (blankC p)⟩
theorem sp151 (k:Nat) (h w:Nat) (h0:1≤h∧h≤40) (h1:1≤w∧w≤60) (p:Pn):evFun (clOf (modsR tab (k+3)) 3) s151 [I h,I w,pnD p]=some (gdO (newG h w p),[]):=by
 have hp:1≤h*w:=Nat.mul_pos h0.1 h1.1
 have hq:h*w≤2400:=Nat.mul_le_mul h0.2 h1.2
 have w1:=sp465 k (blankC p) (h*w) hp (by omega)
 have w2:=sp106 (k+2) p
 have e:celsD [blankC p]=[celD (blankC p)]:=rfl
 rw [e] at w1
 have em:wr ((h:Int)*(w:Int))=((h*w:Nat):Int):=by rw [←Int.natCast_mul];exact wr_id _ (by omega) (by omega)
 have m1:mxI 1 (mnI h 40)=h:=by unfold mxI mnI;(repeat' split);all_goals omega
 have m2:mxI 1 (mnI w 60)=w:=by unfold mxI mnI;(repeat' split);all_goals omega
 have hne:h*w≠0:=by omega
 unfold newG
 generalize h*w=N at *
 simp only [blankC] at w1 w2 ⊢
 rw [evFun_evB rfl]
 unfold s151
 simp -implicitDefEqProofs [m1,m2,em,cw106,w2,cw465,w1,hne]
end Go.Proofs.YtlpchliomdomdaaGreat.LgTab
namespace Go.Proofs.YtlpchliomdomdaaGreat.LgTab
open Go Lg
set_option linter.unusedVariables false
set_option linter.unusedSimpArgs false
set_option maxRecDepth 8000
theorem newG_ok (h w:Nat) (h0:1≤h∧h≤40) (h1:1≤w∧w≤60) (p:Pn):OkG (newG h w p):=⟨h0.1,by have:=h0.2;show h≤1000;omega,h1.1,by have:=h1.2;show w≤1000;omega,by simp [newG]⟩
end Go.Proofs.YtlpchliomdomdaaGreat.LgTab
