import Derived.Test.YtlpchliomdomdaaGreatPk18
import Derived.Test.YtlpchliomdomdaaGreatPk19
namespace Go.Proofs.YtlpchliomdomdaaGreat.LgTab
open Go Lg
set_option linter.unusedVariables false
set_option linter.unusedSimpArgs false
set_option maxRecDepth 8000
noncomputable def allS (s:Sc) (l:List Ev):Sc:=l.foldl doS s
theorem allS_ok {s:Sc} (o:OkS s) (l:List Ev):OkS (allS s l):=by
 induction l generalizing s with
 | nil=>exact o
 | cons e l ih=>exact ih (doS_ok o e)
def evsD (l:List Ev):List D:=l.map fun e=>evD e
theorem evsD_len (l:List Ev):(evsD l).length=l.length:=by simp [evsD]
theorem evsD_getD {l:List Ev} {n:Nat} {e:Ev} (h:l[n]? = some e):(evsD l)[n]? = some (evD e):=by unfold evsD;rw [List.getElem?_map,h];rfl
theorem evsD_at {l:List Ev} {n:Nat} {e:Ev} (h:l[n]? = some e):∀ h':n<(evsD l).length,(evsD l)[n]'h'=evD e:=get_of (evsD_getD h)
noncomputable def allN (s:Sc) (l:List Ev) (i:Nat):Sc:=allS s (l.take i)
theorem allN_0 (s:Sc) (l:List Ev):allN s l 0=s:=rfl
theorem allN_all (s:Sc) (l:List Ev):allN s l l.length=allS s l:=by unfold allN;rw [List.take_of_length_le (Nat.le_refl _)]
theorem allN_ok {s:Sc} (o:OkS s) (l:List Ev) (i:Nat):OkS (allN s l i):=allS_ok o _
theorem allN_snoc (s:Sc) {l:List Ev} {i:Nat} {e:Ev} (h:l[i]? = some e):allN s l (i+1)=doS (allN s l i) e:=by
 unfold allN allS
 rw [take_snoc h,List.foldl_append]
 rfl
set_option maxHeartbeats 4000000 in
theorem sp399 (k:Nat) (s:Sc) (o:OkS s) (l:List Ev) (hl:l.length≤100000) (hp:∀ e,e∈l→e.par.length≤100000):evFun (clOf (modsR tab (k+9)) 3) s399 [scD s, .sl 7 (evsD l)]=some (scD (allS s l),[]):=by
 have w1:=fun q=>sp370 q s o.g (by have:=o.len;omega)
 have hlen:=evsD_len l
 have h0:=allN_0 s l
 rw [←allN_all]
 rw [evFun_evB rfl]
 unfold s399
 simp -implicitDefEqProofs [cw370,w1,hlen]
 refine evB_for (fun i=>[.sl 7 (evsD l),I l.length,I i, .obx (scL (allN s l i)), .obx zSc]) l.length (.exit 0) [.sl 7 (evsD l),I l.length,I l.length, .obx (scL (allN s l l.length)), .obx zSc] ?_ (fun i hi=>?_) ?_ (by simp) (by simp [rounds];omega) ?_
 ·simp -implicitDefEqProofs [h0,zSc]
 ·obtain ⟨e,he⟩:=get_ex hi
  have hs:=allN_snoc s he
  have oi:=allN_ok o l i
  have v:=fun q=>sp400 q _ oi e (hp e (List.mem_of_getElem? he))
  have hg:=evsD_at he
  have hlt:(i:Int)<l.length:=by omega
  rw [←hs] at v
  generalize allN s l (i+1)=S' at *
  generalize allN s l i=S2 at *
  generalize evsD l=L at *
  simp -implicitDefEqProofs [hlt,hi,hg,hlen,cw400,v,wr_id ((i:Int)+1) (by omega) (by omega),zSc]
 ·generalize allN s l l.length=S'
  simp -implicitDefEqProofs [zSc]
 ·generalize allN s l l.length=S'
  simp -implicitDefEqProofs [zSc]
structure Kev where
 kd:Int
 rn:Int
 fn:Int
 ps:List Int
 tx:List Int
abbrev kevD (e:Kev):D:= .agg [I e.kd,I e.rn,I e.fn, .sl 1 (e.ps.map I), .sl 1 (e.tx.map U)]
def kevsD (l:List Kev):List D:=l.map fun e=>kevD e
theorem kevsD_len (l:List Kev):(kevsD l).length=l.length:=by simp [kevsD]
theorem kevsD_getD {l:List Kev} {n:Nat} {e:Kev} (h:l[n]? = some e):(kevsD l)[n]? = some (kevD e):=by unfold kevsD;rw [List.getElem?_map,h];rfl
theorem kevsD_at {l:List Kev} {n:Nat} {e:Kev} (h:l[n]? = some e):∀ h':n<(kevsD l).length,(kevsD l)[n]'h'=kevD e:=get_of (kevsD_getD h)
theorem isROs_U:∀ l:List Int,isROs (l.map U)=true
 | []=>rfl
 | n :: l=>by simp [isROs,isRO,isROs_U l]
end Go.Proofs.YtlpchliomdomdaaGreat.LgTab
