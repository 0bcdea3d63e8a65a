import Derived.Test.YtlpchliomdomdaaGreatPt3
namespace Lg
open Go
set_option linter.unusedVariables false
set_option linter.unusedSimpArgs false
def evB {R:Type} (cl:Cl) (c:SCode) (E:Env) (H:List Ob) (k:Ex→Env→List Ob→Option R):Option R:=(evC cl c E H).bind fun r=>k r.1 r.2.1 r.2.2
def stB {R:Type} (cl:Cl) (ops:List SOper) (E:Env) (H:List Ob) (k:Env→List Ob→Option R):Option R:=(stepsO cl ops E H).bind fun r=>k r.1 r.2
def drB {R:Type} (cl:Cl) (ops:List (List Nat×Bool×SOper)) (lg:Log) (ps:List Nat) (E:Env) (H:List Ob) (k:Env→List Ob→Option R):Option R:=(stepsD cl ops lg ps E H).bind fun r=>k r.1 r.2
section
variable {R:Type} {cl:Cl} {E:Env} {H:List Ob} {k:Ex→Env→List Ob→Option R} {kk:Env→List Ob→Option R}
def nrmK (k:Ex→Env→List Ob→Option R) (E:Env) (H:List Ob):Option R:=k .nrm E H
theorem nrmK_ap:nrmK k E H=k .nrm E H:=Eq.trans rfl rfl
theorem evB_skip:evB cl .skip E H k=k .nrm E H:=Eq.trans rfl rfl
theorem evB_ret:evB cl .ret E H k=k .ret E H:=Eq.trans rfl rfl
theorem evB_exit {id:Nat}:evB cl (.exit id) E H k=k (.exit id) E H:=Eq.trans rfl rfl
theorem evB_reg {ops:List SOper}:evB cl (.reg ops) E H k=stB cl ops E H (nrmK k):=by
 unfold evB stB
 simp only [evC]
 cases stepsO cl ops E H<;>rfl
theorem evB_dreg {ops:List (List Nat×Bool×SOper)}:evB cl (.dreg ops) E H k=drB cl ops [] [] E H (nrmK k):=by
 unfold evB drB
 simp only [evC]
 cases stepsD cl ops [] [] E H<;>rfl
def seqK (cl:Cl) (b:SCode) (k:Ex→Env→List Ob→Option R) (ex:Ex) (E:Env) (H:List Ob):Option R:=match ex with
 | .nrm=>evB cl b E H k
 | ex=>k ex E H
theorem evB_seq {a b:SCode}:evB cl (.seq a b) E H k=evB cl a E H (seqK cl b k):=by
 unfold evB
 simp only [evC]
 cases h:evC cl a E H with
 | none=>rfl
 | some r =>
  obtain ⟨ex,E',H'⟩:=r
  cases ex<;>rfl
def blkK (id:Nat) (k:Ex→Env→List Ob→Option R) (ex:Ex) (E:Env) (H:List Ob):Option R:=match ex with
 | .exit i=>if i=id then k .nrm E H else k (.exit i) E H
 | ex=>k ex E H
theorem evB_block {id:Nat} {a:SCode}:evB cl (.block id a) E H k=evB cl a E H (blkK id k):=by
 unfold evB
 simp only [evC]
 cases h:evC cl a E H with
 | none=>rfl
 | some r =>
  obtain ⟨ex,E',H'⟩:=r
  cases ex with
  | exit i =>
   simp only [Option.bind_some,blkK]
   split<;>rfl
  | _=>rfl
theorem seqK_nrm {b:SCode}:seqK cl b k .nrm E H=evB cl b E H k:=Eq.trans rfl rfl
theorem seqK_ret {b:SCode}:seqK cl b k .ret E H=k .ret E H:=Eq.trans rfl rfl
theorem seqK_exit {b:SCode} {i:Nat}:seqK cl b k (.exit i) E H=k (.exit i) E H:=Eq.trans rfl rfl
theorem blkK_nrm {id:Nat}:blkK id k .nrm E H=k .nrm E H:=Eq.trans rfl rfl
theorem blkK_ret {id:Nat}:blkK id k .ret E H=k .ret E H:=Eq.trans rfl rfl
theorem blkK_exit {id i:Nat}:blkK id k (.exit i) E H=if i=id then k .nrm E H else k (.exit i) E H:=Eq.trans rfl rfl
def condK (cl:Cl) (a b:SCode) (E:Env) (H:List Ob) (k:Ex→Env→List Ob→Option R) (d:D):Option R:=match d with
 | .sc (.bool x)=>if x then evB cl a E H k else evB cl b E H k
 | _=>none
theorem evB_cond {c:SOpd} {a b:SCode}:evB cl (.cond c a b) E H k=condK cl a b E H k (ov E c):=by
 unfold evB
 simp only [evC]
 cases ov E c with
 | sc v =>
  cases v with
  | bool x=>cases x<;>rfl
  | _=>rfl
 | _=>rfl
theorem stB_nil:stB cl [] E H kk=kk E H:=Eq.trans rfl rfl
def tailK (cl:Cl) (os:List SOper) (kk:Env→List Ob→Option R) (r:Env×List Ob):Option R:=stB cl os r.1 r.2 kk
theorem tailK_ap {os:List SOper} {r:Env×List Ob}:tailK cl os kk r=stB cl os r.1 r.2 kk:=Eq.trans rfl rfl
theorem stB_cons {o:SOper} {os:List SOper}:stB cl (o :: os) E H kk=(stepO cl o E H).bind (tailK cl os kk):=by
 unfold stB tailK stB
 simp only [stepsO]
 cases stepO cl o E H<;>rfl
theorem drB_nil {lg:Log} {ps:List Nat}:drB cl [] lg ps E H kk=kk (settle ps E H).1 (settle ps E H).2:=Eq.trans rfl rfl
def barK (cl:Cl) (os:List (List Nat×Bool×SOper)) (kk:Env→List Ob→Option R) (r:Env×List Ob):Option R:=drB cl os [] [] r.1 r.2 kk
theorem barK_ap {os:List (List Nat×Bool×SOper)} {r:Env×List Ob}:barK cl os kk r=drB cl os [] [] r.1 r.2 kk:=Eq.trans rfl rfl
theorem drB_bar {un:List Nat} {o:SOper} {os:List (List Nat×Bool×SOper)} {lg:Log} {ps:List Nat}:drB cl ((un,true,o) :: os) lg ps E H kk=(stepO cl o (settle ps E H).1 (settle ps E H).2).bind (barK cl os kk):=by
 unfold drB barK drB
 simp only [stepsD,if_true]
 cases stepO cl o (settle ps E H).1 (settle ps E H).2<;>rfl
def freeK (cl:Cl) (un:List Nat) (o:SOper) (os:List (List Nat×Bool×SOper)) (lg:Log) (ps:List Nat) (E:Env) (H:List Ob) (kk:Env→List Ob→Option R) (r:D×Option Nat×Option (Nat×Ob)):Option R :=
 if clash lg un (loX E o r) then none else drB cl os (lg++[loX E o r]) (ps++o.dst.toList) (putE o.dst r.1 (putE r.2.1 .un E)) (putH r.2.2 H) kk
theorem freeK_ap {un:List Nat} {o:SOper} {os:List (List Nat×Bool×SOper)} {lg:Log} {ps:List Nat} {r:D×Option Nat×Option (Nat×Ob)} :
  freeK cl un o os lg ps E H kk r=if clash lg un (loX E o r) then none else drB cl os (lg++[loX E o r]) (ps++o.dst.toList) (putE o.dst r.1 (putE r.2.1 .un E)) (putH r.2.2 H) kk:=Eq.trans rfl rfl
def freeC (cl:Cl) (un:List Nat) (o:SOper) (os:List (List Nat×Bool×SOper)) (lg:Log) (ps:List Nat) (H:List Ob) (kk:Env→List Ob→Option R) (r:Env×List Ob):Option R :=
 if clash lg un ([],kept H r.2,2) then none else drB cl os (lg++[([],kept H r.2,2)]) (ps++o.dst.toList) r.1 r.2 kk
theorem freeC_ap {un:List Nat} {o:SOper} {os:List (List Nat×Bool×SOper)} {lg:Log} {ps:List Nat} {r:Env×List Ob} :
  freeC cl un o os lg ps H kk r=if clash lg un ([],kept H r.2,2) then none else drB cl os (lg++[([],kept H r.2,2)]) (ps++o.dst.toList) r.1 r.2 kk:=Eq.trans rfl rfl
theorem drB_free {un:List Nat} {o:SOper} {os:List (List Nat×Bool×SOper)} {lg:Log} {ps:List Nat}:drB cl ((un,false,o) :: os) lg ps E H kk =
  if isCall o.op then (if (rdS o).all (fun t=>noTree (lk E t)) then (stepO cl o E H).bind (freeC cl un o os lg ps H kk) else none) else (stepX cl o E H).bind (freeK cl un o os lg ps E H kk):=by
 unfold drB freeK freeC drB
 simp only [stepsD,Bool.false_eq_true,if_false]
 split
 ·split
  ·cases stepO cl o E H with
   | none=>rfl
   | some r =>
    simp only [Option.bind_some]
    split<;>rfl
  ·rfl
 ·cases stepX cl o E H with
  | none=>rfl
  | some r =>
   simp only [Option.bind_some]
   split<;>rfl
def loopF (cl:Cl) (live:List (Nat×Mode)) (c:SCode) (ts:List D):Option (Ex×List D):=evB cl c (unfL live ts []).1 (unfL live ts []).2 fun ex E' H'=>(foldL live E' H').map fun t=>(ex,t.1)
theorem evC_loop {live:List (Nat×Mode)} {c:SCode}:evC cl (.loop live c) E H=(foldL live E H).bind fun t0=>(iter (loopF cl live c) rounds t0.1).map fun r=>(r.1,(unfL live r.2 []).1,(unfL live r.2 []).2):=by
 rw [evC]
 congr 1
 funext t0
 congr 2
 funext ts
 unfold loopF evB
 simp only
 generalize evC cl c (unfL live ts []).1 (unfL live ts []).2=o
 cases o<;>rfl
theorem evB_loop {live:List (Nat×Mode)} {c:SCode} {t0 t1:List D} {H':List Ob} {ex:Ex} (h0:foldL live E H=some (t0,H')) (h1:iter (loopF cl live c) rounds t0=some (ex,t1)) :
  evB cl (.loop live c) E H k=k ex (unfL live t1 []).1 (unfL live t1 []).2:=by
 unfold evB
 rw [evC_loop,h0,Option.bind_some,h1]
 rfl
theorem evB_loop1 {live:List (Nat×Mode)} {c:SCode} {t0 t1:List D} {ex:Ex} (h0:(foldL live E H).map Prod.fst=some t0) (h1:iter (loopF cl live c) rounds t0=some (ex,t1)) :
  evB cl (.loop live c) E H k=k ex (unfL live t1 []).1 (unfL live t1 []).2:=by
 obtain ⟨⟨t,H'⟩,h,e⟩:=Option.map_eq_some_iff.1 h0
 cases e
 exact evB_loop h h1
def foldK (live:List (Nat×Mode)) (ex:Ex) (E:Env) (H:List Ob):Option (Ex×List D):=(foldL live E H).map fun t=>(ex,t.1)
theorem loopF_eq {live:List (Nat×Mode)} {c:SCode} {ts:List D}:loopF cl live c ts=evB cl c (unfL live ts []).1 (unfL live ts []).2 (foldK live):=Eq.trans rfl rfl
theorem foldK_ap {live:List (Nat×Mode)} {ex:Ex}:foldK live ex E H=(foldL live E H).map fun t=>(ex,t.1):=Eq.trans rfl rfl
def finK (s:SFun) (args:List D) (ex:Ex) (E:Env) (H:List Ob):Option (D×List D):=match ex with
 | .exit _=>none
 | _=>(resDs E H s.res).bind fun ds=>(foldR s.res ds H).bind fun p=>(outs s.fx E 0 args p.2).map fun q=>(one p.1,q.1)
theorem evFun_evB {s:SFun} {args:List D} (h:args.length=s.nargs):evFun cl s args=evB cl s.body (envFrom 0 (unfs args []).1) (unfs args []).2 (finK s args):=by
 unfold evFun evB
 rw [if_pos h]
 simp only
 cases evC cl s.body (envFrom 0 (unfs args []).1) (unfs args []).2 with
 | none=>rfl
 | some r=>obtain ⟨ex,E,H⟩:=r;cases ex<;>rfl
theorem finK_nrm {s:SFun} {args:List D}:finK s args .nrm E H=(resDs E H s.res).bind fun ds=>(foldR s.res ds H).bind fun p=>(outs s.fx E 0 args p.2).map fun q=>(one p.1,q.1):=Eq.trans rfl rfl
theorem finK_ret {s:SFun} {args:List D}:finK s args .ret E H=(resDs E H s.res).bind fun ds=>(foldR s.res ds H).bind fun p=>(outs s.fx E 0 args p.2).map fun q=>(one p.1,q.1):=Eq.trans rfl rfl
end
theorem iter_to {body:List D→Option (Ex×List D)} {f:Nat→List D} {ex:Ex} {t:List D} (hne:ex≠ .nrm):∀ (N:Nat) (j n:Nat),(∀ i,j≤i→i<j+N→body (f i)=some (.nrm,f (i+1)))→body (f (j+N))=some (ex,t)→N<n→iter body n (f j)=some (ex,t)
 | 0,j,n,h,he,hn=>by
  cases n with
  | zero=>omega
  | succ n =>
   rw [iter,show f j=f (j+0) from rfl,he]
   cases ex<;>first | rfl | exact absurd rfl hne
 | N+1,j,n,h,he,hn=>by
  cases n with
  | zero=>omega
  | succ n =>
   rw [iter,h j (Nat.le_refl _) (by omega)]
   exact iter_to hne N (j+1) n (fun i a b=>h i (by omega) (by omega)) (by rw [show j+1+N=j+(N+1) by omega];exact he) (by omega)
theorem iter_from {body:List D→Option (Ex×List D)} (f:Nat→List D) (N:Nat) {ex:Ex} {t:List D} (hne:ex≠ .nrm) (h:∀ i,i<N→body (f i)=some (.nrm,f (i+1))) (he:body (f N)=some (ex,t)) (hn:N<rounds):iter body rounds (f 0)=some (ex,t) :=
 iter_to hne N 0 rounds (fun i _ b=>h i (by omega)) (by simpa using he) hn
theorem evB_for {R:Type} {cl:Cl} {E:Env} {H:List Ob} {k:Ex→Env→List Ob→Option R} {live:List (Nat×Mode)} {c:SCode} {r:Option R} (f:Nat→List D) (N:Nat) (ex:Ex) (t:List D)
  (h0:(foldL live E H).map Prod.fst=some (f 0)) (h:∀ i,i<N→loopF cl live c (f i)=some (.nrm,f (i+1))) (he:loopF cl live c (f N)=some (ex,t)) (hne:ex≠ .nrm) (hn:N<rounds)
  (hk:k ex (unfL live t []).1 (unfL live t []).2=r):evB cl (.loop live c) E H k=r :=
 (evB_loop1 h0 (iter_from f N hne h he hn)).trans hk
theorem iter_run {σ:Type} {body:List D→Option (Ex×List D)} (enc:σ→List D) (μ:σ→Nat) (out:σ→Ex×List D) (Q:σ→Prop)
  (h:∀ s,Q s→(∃ s',body (enc s)=some (.nrm,enc s')∧μ s'<μ s∧out s'=out s∧Q s')∨(body (enc s)=some (out s)∧(out s).1≠ .nrm)) :
  ∀ (n:Nat) (s:σ),Q s→μ s<n→iter body n (enc s)=some (out s)
 | 0,s,hq,hn=>by omega
 | n+1,s,hq,hn=>by
  rcases h s hq with ⟨s',h1,h2,h3,h4⟩ | ⟨h1,h2⟩
  ·rw [iter,h1]
   simp only
   rw [iter_run enc μ out Q h n s' h4 (by omega),h3]
  ·rw [iter,h1]
   revert h2
   generalize out s=o
   intro h2
   obtain ⟨ex,t⟩:=o
   cases ex<;>first | rfl | exact absurd rfl h2
theorem evB_run {R σ:Type} {cl:Cl} {E:Env} {H:List Ob} {k:Ex→Env→List Ob→Option R} {live:List (Nat×Mode)} {c:SCode} {r:Option R} (enc:σ→List D) (μ:σ→Nat) (out:σ→Ex×List D) (Q:σ→Prop) (s:σ)
  (h0:(foldL live E H).map Prod.fst=some (enc s)) (hq:Q s) (hn:μ s<rounds)
  (h:∀ s,Q s→(∃ s',loopF cl live c (enc s)=some (.nrm,enc s')∧μ s'<μ s∧out s'=out s∧Q s')∨(loopF cl live c (enc s)=some (out s)∧(out s).1≠ .nrm))
  (hk:k (out s).1 (unfL live (out s).2 []).1 (unfL live (out s).2 []).2=r):evB cl (.loop live c) E H k=r :=
 (evB_loop1 h0 (iter_run enc μ out Q h rounds s hq hn)).trans hk
def bodyR (cl:Cl) (live:List Nat) (n:Nat) (c:SCode) (s:Env×List Ob):Option (Ex×Env×List Ob):=evB cl c s.1 s.2 fun ex E H=>some (ex,trimR live n E H)
def trimK (live:List Nat) (n:Nat) (ex:Ex) (E:Env) (H:List Ob):Option (Ex×Env×List Ob):=some (ex,trimR live n E H)
theorem bodyR_eq {cl:Cl} {live:List Nat} {n:Nat} {c:SCode} {E:Env} {H:List Ob}:bodyR cl live n c (E,H)=evB cl c E H (trimK live n):=Eq.trans rfl rfl
theorem trimK_ap {live:List Nat} {n:Nat} {ex:Ex} {E:Env} {H:List Ob}:trimK live n ex E H=some (ex,live.map fun t=>(t,keepD n (lk E t)),(H.take n).map (keepOb n)):=Eq.trans rfl rfl
theorem evC_loopR {cl:Cl} {E:Env} {H:List Ob} {live:List Nat} {c:SCode}:evC cl (.loopR live c) E H=iterR (bodyR cl live H.length c) rounds (trimR live H.length E H):=by
 rw [evC]
 congr 1
 funext s
 unfold bodyR evB
 generalize evC cl c s.1 s.2=o
 cases o<;>rfl
theorem iterR_to {body:Env×List Ob→Option (Ex×Env×List Ob)} {f:Nat→Env×List Ob} {ex:Ex} {t:Env×List Ob} (hne:ex≠ .nrm):∀ (N:Nat) (j n:Nat),(∀ i,j≤i→i<j+N→body (f i)=some (.nrm,f (i+1)))→body (f (j+N))=some (ex,t)→N<n→iterR body n (f j)=some (ex,t)
 | 0,j,n,h,he,hn=>by
  cases n with
  | zero=>omega
  | succ n =>
   rw [iterR,show f j=f (j+0) from rfl,he]
   cases ex<;>first | rfl | exact absurd rfl hne
 | N+1,j,n,h,he,hn=>by
  cases n with
  | zero=>omega
  | succ n =>
   rw [iterR,h j (Nat.le_refl _) (by omega)]
   exact iterR_to hne N (j+1) n (fun i a b=>h i (by omega) (by omega)) (by rw [show j+1+N=j+(N+1) by omega];exact he) (by omega)
theorem evB_forR {R:Type} {cl:Cl} {E:Env} {H:List Ob} {k:Ex→Env→List Ob→Option R} {live:List Nat} {c:SCode} {r:Option R} (f:Nat→Env×List Ob) (N:Nat) (ex:Ex) (t:Env×List Ob)
  (h0:trimR live H.length E H=f 0) (h:∀ i,i<N→bodyR cl live H.length c (f i)=some (.nrm,f (i+1))) (he:bodyR cl live H.length c (f N)=some (ex,t)) (hne:ex≠ .nrm) (hn:N<rounds)
  (hk:k ex t.1 t.2=r):evB cl (.loopR live c) E H k=r:=by
 unfold evB
 rw [evC_loopR,h0,iterR_to hne N 0 rounds (fun i _ b=>h i (by omega)) (by simpa using he) hn]
 exact hk
theorem wrap_id (n:Int) (h0 : -9223372036854775808≤n) (h1:n≤9223372036854775807):IntKind.i64.wrap n=n:=by
 have e1:IntKind.i64.wrap n=if decide (n % 18446744073709551616≥9223372036854775808)=true then n % 18446744073709551616-18446744073709551616 else n % 18446744073709551616:=rfl
 rw [e1]
 simp only [decide_eq_true_eq]
 split<;>omega
end Lg
namespace Lg
open Go
set_option linter.unusedVariables false
set_option linter.unusedSimpArgs false
def quietOp:SOp→Bool
 | .mv _ | .pick .. | .alloc _ | .box .. | .build .. | .load .. | .nilc _ | .bin .. | .binb .. | .eqa .. | .eqn .. | .una .. | .cvi .. | .cvs _ | .fad .. | .fld .. | .ixs .. | .ixa .. | .ixt .. | .ixg .. | .ext .. | .len _ | .slc .. | .sls .. | .mx _ | .mn _=>true
 | .call true _ _ | .callr _ _=>true
 | _=>false
theorem quiet_none {cl:Nat→List D→List Ob→Option D} {E:Env} {H:List Ob} {op:SOp} {d:D} {u:Option (Nat×Ob)} (h:quietOp op=true) (e:evX cl E H op=some (d,u)):u=none:=by
 cases op
 case call q f xs =>
  cases q
  ·simp [quietOp] at h
  ·simp only [evX,Option.map_eq_some_iff] at e
   obtain ⟨a,_,e⟩:=e
   injection e with _ e
   exact e.symm
 all_goals first
  | (simp only [quietOp,Bool.false_eq_true] at h;done)
  | (simp only [evX,Option.map_eq_some_iff,Option.bind_eq_some_iff] at e;grind)
  | (simp only [evX] at e;(repeat' split at e);all_goals first | (cases e;done) | (simp only [Option.map_eq_some_iff,Option.bind_eq_some_iff,Option.some.injEq,Prod.mk.injEq] at e;grind [Option.map_eq_some_iff]))
def quietReg:Nat→List (List Nat×Bool×SOper)→Bool
 | _,[]=>true
 | n,(un,bar,o) :: os=>if bar then quietReg 0 os else quietOp o.op && !isCall o.op && un.all (fun i=>decide (i<n)) && quietReg (n+1) os
def stepsQ (cl:Cl):List (List Nat×Bool×SOper)→List Nat→Env→List Ob→Option (Env×List Ob)
 | [],ps,E,H=>some (settle ps E H)
 | (un,bar,o) :: os,ps,E,H =>
  if bar then (let s:=settle ps E H;(stepO cl o s.1 s.2).bind fun r=>stepsQ cl os [] r.1 r.2)
  else (stepX cl o E H).bind fun r=>stepsQ cl os (ps++o.dst.toList) (putE o.dst r.1 (putE r.2.1 .un E)) H
def calm (lg:Log):Prop:=∀ l,l∈lg→l.2.1=[]∧l.2.2≠2
theorem calm_clash {lg:Log} {un:List Nat} {l:Lo} (h:calm lg) (hl:l.2.1=[]∧l.2.2≠2) (hu:un.all (fun i=>decide (i<lg.length))=true):clash lg un l=false:=by
 unfold clash
 rw [List.any_eq_false]
 intro i hi
 have hi':i<lg.length:=by
  have:=List.all_eq_true.1 hu i hi
  simpa using this
 rw [List.getElem?_eq_getElem hi']
 obtain ⟨h1,h2⟩:=h lg[i] (List.getElem_mem hi')
 simp only [noclB,if_neg h2,if_neg hl.2,h1,hl.1]
 simp [apart]
theorem stepX_quiet {cl:Cl} {o:SOper} {E:Env} {H:List Ob} {r:D×Option Nat×Option (Nat×Ob)} (h:quietOp o.op=true) (e:stepX cl o E H=some r):r.2.2=none:=by
 unfold stepX at e
 split at e
 ·obtain ⟨⟨d,u⟩,h1,h2⟩:=Option.map_eq_some_iff.1 e
  have:=quiet_none h h1
  subst this
  rw [←h2]
 ·injection e with e;rw [←e]
 ·cases e
theorem loX_calm {E:Env} {o:SOper} {r:D×Option Nat×Option (Nat×Ob)} (h:r.2.2=none):(loX E o r).2.1=[]∧(loX E o r).2.2≠2:=by
 unfold loX
 rw [h]
 refine ⟨rfl,?_⟩
 simp only
 split<;>omega
theorem stepsD_quiet {cl:Cl}:∀ (os:List (List Nat×Bool×SOper)) (lg:Log) (ps:List Nat) (E:Env) (H:List Ob),calm lg→quietReg lg.length os=true→stepsD cl os lg ps E H=stepsQ cl os ps E H
 | [],lg,ps,E,H,h,hq=>rfl
 | (un,bar,o) :: os,lg,ps,E,H,h,hq=>by
  unfold quietReg at hq
  cases bar with
  | true =>
   simp only [if_true] at hq
   simp only [stepsD,stepsQ,if_true]
   congr 1
   funext r
   exact stepsD_quiet os [] [] r.1 r.2 (by intro l hl;cases hl) hq
  | false =>
   simp only [Bool.false_eq_true,if_false,Bool.and_eq_true,Bool.not_eq_true'] at hq
   obtain ⟨⟨⟨q1,q2⟩,q3⟩,q4⟩:=hq
   simp only [stepsD,stepsQ,Bool.false_eq_true,if_false,q2]
   cases hx:stepX cl o E H with
   | none=>rfl
   | some r =>
    have hn:=stepX_quiet q1 hx
    have hl:=loX_calm (E:=E) (o:=o) hn
    simp only [Option.bind_some]
    rw [calm_clash h hl q3]
    simp only [Bool.false_eq_true,if_false]
    rw [stepsD_quiet os (lg++[loX E o r]) _ _ _ (by
     intro l hl'
     rcases List.mem_append.1 hl' with h' | h'
     ·exact h l h'
     ·simp at h';subst h';exact hl) (by simpa using q4)]
    rw [hn]
    rfl
section
variable {R:Type} {cl:Cl} {E:Env} {H:List Ob} {k:Ex→Env→List Ob→Option R} {kk:Env→List Ob→Option R}
def qB (cl:Cl) (ops:List (List Nat×Bool×SOper)) (ps:List Nat) (E:Env) (H:List Ob) (kk:Env→List Ob→Option R):Option R:=(stepsQ cl ops ps E H).bind fun r=>kk r.1 r.2
theorem evB_dregQ {ops:List (List Nat×Bool×SOper)}:evB cl (.dreg ops) E H k=if quietReg 0 ops then qB cl ops [] E H (nrmK k) else drB cl ops [] [] E H (nrmK k):=by
 split
 ·rename_i h
  rw [evB_dreg]
  unfold drB qB
  rw [stepsD_quiet ops [] [] E H (by intro l hl;cases hl) h]
 ·exact evB_dreg
theorem qB_nil {ps:List Nat}:qB cl [] ps E H kk=kk (settle ps E H).1 (settle ps E H).2:=Eq.trans rfl rfl
def qbarK (cl:Cl) (os:List (List Nat×Bool×SOper)) (kk:Env→List Ob→Option R) (r:Env×List Ob):Option R:=qB cl os [] r.1 r.2 kk
theorem qbarK_ap {os:List (List Nat×Bool×SOper)} {r:Env×List Ob}:qbarK cl os kk r=qB cl os [] r.1 r.2 kk:=Eq.trans rfl rfl
theorem qB_bar {un:List Nat} {o:SOper} {os:List (List Nat×Bool×SOper)} {ps:List Nat}:qB cl ((un,true,o) :: os) ps E H kk=(stepO cl o (settle ps E H).1 (settle ps E H).2).bind (qbarK cl os kk):=by
 unfold qB qbarK qB
 simp only [stepsQ,if_true]
 cases stepO cl o (settle ps E H).1 (settle ps E H).2<;>rfl
def qfreeK (cl:Cl) (dst:Option Nat) (os:List (List Nat×Bool×SOper)) (ps:List Nat) (E:Env) (H:List Ob) (kk:Env→List Ob→Option R) (r:D×Option Nat×Option (Nat×Ob)):Option R:=qB cl os (ps++dst.toList) (putE dst r.1 (putE r.2.1 .un E)) H kk
theorem qfreeK_ap {dst:Option Nat} {os:List (List Nat×Bool×SOper)} {ps:List Nat} {r:D×Option Nat×Option (Nat×Ob)}:qfreeK cl dst os ps E H kk r=qB cl os (ps++dst.toList) (putE dst r.1 (putE r.2.1 .un E)) H kk:=Eq.trans rfl rfl
theorem qB_free {un:List Nat} {o:SOper} {os:List (List Nat×Bool×SOper)} {ps:List Nat}:qB cl ((un,false,o) :: os) ps E H kk=(stepX cl o E H).bind (qfreeK cl o.dst os ps E H kk):=by
 unfold qB qfreeK qB
 simp only [stepsQ,Bool.false_eq_true,if_false]
 cases stepX cl o E H<;>rfl
end
end Lg
namespace Lg
open Go
set_option linter.unusedVariables false
set_option linter.unusedSimpArgs false
section
variable {α:Type} {cl:Cl} {E:Env} {H:List Ob}
def gdK (d:D) (b:Bool) (A S:Option α):Option α:=match d with
 | .sc (.bool x)=>if x=b then A else S
 | .tup []=>S
 | _=>none
theorem gdK_B {x b:Bool} {A S:Option α}:gdK (.sc (.bool x)) b A S=if x=b then A else S:=Eq.trans rfl rfl
theorem gdK_tup {b:Bool} {A S:Option α}:gdK (.tup []) b A S=S:=Eq.trans rfl rfl
theorem gd_eq {t:Nat} {b:Bool} {A S:Option α}:(match wanted E (some (t,b)) with | some true=>A | some false=>S | none=>none)=gdK (lk E t) b A S:=by
 simp only [wanted]
 generalize lk E t=d
 cases d with
 | sc v =>
  cases v with
  | bool x=>cases x<;>cases b<;>rfl
  | _=>rfl
 | tup ds=>cases ds<;>rfl
 | _=>rfl
def putX (E:Env) (op:SOp) (r:D×Option (Nat×Ob)):D×Option Nat×Option (Nat×Ob):=(r.1,eats E op,r.2)
theorem putX_ap {op:SOp} {d:D} {u:Option (Nat×Ob)}:putX E op (d,u)=(d,eats E op,u):=Eq.trans rfl rfl
theorem stepX_0 {dst:Option Nat} {op:SOp}:stepX cl ⟨dst,op,none⟩ E H=(evX cl.r E H op).map (putX E op):=Eq.trans rfl rfl
theorem stepX_g {dst:Option Nat} {op:SOp} {t:Nat} {b:Bool}:stepX cl ⟨dst,op,some (t,b)⟩ E H=gdK (lk E t) b ((evX cl.r E H op).map (putX E op)) (some (.tup [],none,none)):=by
 rw [←gd_eq]
 rfl
def putS (dst:Option Nat) (E:Env) (H:List Ob) (r:D×Option Nat×Option (Nat×Ob)):Env×List Ob:=match dst with
 | none=>(putE r.2.1 .un E,putH r.2.2 H)
 | some t=>let u:=unf r.1 (putH r.2.2 H);((t,u.1) :: putE r.2.1 .un E,u.2)
theorem putS_none {d:D} {e:Option Nat} {u:Option (Nat×Ob)}:putS none E H (d,e,u)=(putE e .un E,putH u H):=Eq.trans rfl rfl
theorem putS_some {t:Nat} {d:D} {e:Option Nat} {u:Option (Nat×Ob)}:putS (some t) E H (d,e,u)=((t,(unf d (putH u H)).1) :: putE e .un E,(unf d (putH u H)).2):=Eq.trans rfl rfl
def putC (dst:Option Nat) (E:Env) (r:D×List Ob):Env×List Ob:=(putE dst r.1 E,r.2)
theorem putC_ap {dst:Option Nat} {d:D} {H':List Ob}:putC dst E (d,H')=(putE dst d E,H'):=Eq.trans rfl rfl
theorem stepO_0 {dst:Option Nat} {op:SOp}:stepO cl ⟨dst,op,none⟩ E H=if isCall op=true then (evCall cl.w E H op).map (putC dst E) else (stepX cl ⟨dst,op,none⟩ E H).map (putS dst E H):=by
 unfold stepO
 cases isCall op<;>rfl
theorem stepO_g {dst:Option Nat} {op:SOp} {t:Nat} {b:Bool}:stepO cl ⟨dst,op,some (t,b)⟩ E H =
  if isCall op=true then gdK (lk E t) b ((evCall cl.w E H op).map (putC dst E)) (some (putE dst (.tup []) E,H)) else (stepX cl ⟨dst,op,some (t,b)⟩ E H).map (putS dst E H):=by
 unfold stepO
 rw [←gd_eq]
 cases isCall op<;>rfl
theorem condK_B {R:Type} {k:Ex→Env→List Ob→Option R} {a b:SCode} {x:Bool}:condK cl a b E H k (.sc (.bool x))=if x=true then evB cl a E H k else evB cl b E H k:=Eq.trans rfl rfl
end
theorem evB_forP {R:Type} {P:Option R→Prop} {cl:Cl} {E:Env} {H:List Ob} {k:Ex→Env→List Ob→Option R} {live:List (Nat×Mode)} {c:SCode} (f:Nat→List D) (N:Nat) (ex:Ex) (t:List D)
  (h0:(foldL live E H).map Prod.fst=some (f 0)) (h:∀ i,i<N→loopF cl live c (f i)=some (.nrm,f (i+1))) (he:loopF cl live c (f N)=some (ex,t)) (hne:ex≠ .nrm) (hn:N<rounds)
  (hk:P (k ex (unfL live t []).1 (unfL live t []).2)):P (evB cl (.loop live c) E H k):=by
 rw [evB_for f N ex t h0 h he hne hn rfl]
 exact hk
theorem iter_inv {σ:Type} {body:List D→Option (Ex×List D)} (enc:σ→List D) (μ:σ→Nat) (Q:σ→Prop) (Post:Ex→List D→Prop)
  (h:∀ s,Q s→(∃ s',body (enc s)=some (.nrm,enc s')∧μ s'<μ s∧Q s')∨(∃ ex t,body (enc s)=some (ex,t)∧ex≠ .nrm∧Post ex t)) :
  ∀ (n:Nat) (s:σ),Q s→μ s<n→∃ ex t,iter body n (enc s)=some (ex,t)∧Post ex t
 | 0,s,hq,hn=>by omega
 | n+1,s,hq,hn=>by
  rcases h s hq with ⟨s',h1,h2,h3⟩ | ⟨ex,t,h1,h2,h3⟩
  ·obtain ⟨ex,t,e,p⟩:=iter_inv enc μ Q Post h n s' h3 (by omega)
   exact ⟨ex,t,by rw [iter,h1];exact e,p⟩
  ·refine ⟨ex,t,?_,h3⟩
   rw [iter,h1]
   cases ex<;>first | rfl | exact absurd rfl h2
theorem evB_inv {R σ:Type} {P:Option R→Prop} {cl:Cl} {E:Env} {H:List Ob} {k:Ex→Env→List Ob→Option R} {live:List (Nat×Mode)} {c:SCode} (enc:σ→List D) (μ:σ→Nat) (Q:σ→Prop) (Post:Ex→List D→Prop) (s:σ)
  (h0:(foldL live E H).map Prod.fst=some (enc s)) (hq:Q s) (hn:μ s<rounds)
  (h:∀ s,Q s→(∃ s',loopF cl live c (enc s)=some (.nrm,enc s')∧μ s'<μ s∧Q s')∨(∃ ex t,loopF cl live c (enc s)=some (ex,t)∧ex≠ .nrm∧Post ex t))
  (hk:∀ ex t,Post ex t→P (k ex (unfL live t []).1 (unfL live t []).2)):P (evB cl (.loop live c) E H k):=by
 obtain ⟨ex,t,e,p⟩:=iter_inv enc μ Q Post h rounds s hq hn
 rw [evB_loop1 h0 e]
 exact hk ex t p
section
variable {α β:Type} {p:Prop} [Decidable p]
end
def inlK (s:SFun) (ex:Ex) (E:Env) (H:List Ob):Option (D×List Ob):=match ex with
 | .exit _=>none
 | _=>(resDs E H s.res).map fun ds=>(one ds,H)
theorem inlK_nrm {s:SFun} {E:Env} {H:List Ob}:inlK s .nrm E H=(resDs E H s.res).map fun ds=>(one ds,H):=Eq.trans rfl rfl
theorem inlK_ret {s:SFun} {E:Env} {H:List Ob}:inlK s .ret E H=(resDs E H s.res).map fun ds=>(one ds,H):=Eq.trans rfl rfl
theorem evInl_evB {cl:Cl} {s:SFun} {args:List D} {H:List Ob} (h1:args.length=s.nargs) (h2:noLoop s.body=true):evInl cl s args H=evB cl s.body (envFrom 0 args) H (inlK s):=by
 unfold evInl evB
 rw [if_pos ⟨h1,h2⟩]
 cases evC cl s.body (envFrom 0 args) H with
 | none=>rfl
 | some r=>obtain ⟨ex,E,H⟩:=r;cases ex<;>rfl
end Lg
namespace Lg
open Go
set_option linter.unusedVariables false
set_option linter.unusedSimpArgs false
abbrev U (n:Int):D:= .sc (.int .u8 n)
abbrev R (n:Int):D:= .sc (.int .i32 n)
abbrev T64 (n:Int):D:= .sc (.int .u64 n)
abbrev S (l:List UInt8):D:= .sc (.string ⟨⟨l⟩⟩)
abbrev I (n:Int):D:= .sc (.int .i64 n)
abbrev B (b:Bool):D:= .sc (.bool b)
noncomputable def hid {α:Type} (x:α):α:=Classical.choose (⟨x,rfl⟩:∃ y,y=x)
theorem hid_eq {α:Type} (x:α):hid x=x:=Classical.choose_spec (⟨x,rfl⟩:∃ y,y=x)
noncomputable def wr:Int→Int:=hid IntKind.i64.wrap
theorem wr_def (n:Int):wr n=IntKind.i64.wrap n:=by unfold wr;rw [hid_eq]
theorem wr_id (n:Int) (h0 : -9223372036854775808≤n) (h1:n≤9223372036854775807):wr n=n:=by rw [wr_def,wrap_id n h0 h1]
theorem binD_add (a b:Int):binD .add (I a) (I b)=some (I (wr (a+b))):=by simp [binD,binI,wr_def]
theorem binD_sub (a b:Int):binD .sub (I a) (I b)=some (I (wr (a-b))):=by simp [binD,binI,wr_def]
theorem binD_mul (a b:Int):binD .mul (I a) (I b)=some (I (wr (a*b))):=by simp [binD,binI,wr_def]
theorem binD_rem (a b:Int):binD .rem (I a) (I b)=if b=0 then none else some (I (a.tmod b)):=by simp [binD,binI];split<;>rfl
theorem binD_quo (a b:Int):binD .quo (I a) (I b)=if b=0 then none else some (I (wr (a.tdiv b))):=by simp [binD,binI,wr_def];split<;>rfl
theorem binD_lss (a b:Int):binD .lss (I a) (I b)=some (B (decide (a<b))):=by simp [binD,binI]
theorem binD_leq (a b:Int):binD .leq (I a) (I b)=some (B (decide (a≤b))):=by simp [binD,binI]
theorem binD_gtr (a b:Int):binD .gtr (I a) (I b)=some (B (decide (b<a))):=by simp [binD,binI]
theorem binD_geq (a b:Int):binD .geq (I a) (I b)=some (B (decide (b≤a))):=by simp [binD,binI]
theorem binD_eql (a b:Int):binD .eql (I a) (I b)=some (B (decide (a=b))):=by simp only [binD,binI,Option.map];rfl
theorem binD_neq (a b:Int):binD .neq (I a) (I b)=some (B (!decide (a=b))):=by simp only [binD,binI,Option.map];rfl
theorem binK_eql (k:IntKind) (a b:Int):binD .eql (.sc (.int k a)) (.sc (.int k b))=some (B (decide (a=b))):=by simp only [binD,binI,if_true,Option.map];rfl
theorem binK_neq (k:IntKind) (a b:Int):binD .neq (.sc (.int k a)) (.sc (.int k b))=some (B (!decide (a=b))):=by simp only [binD,binI,if_true,Option.map];rfl
theorem binK_lss (k:IntKind) (a b:Int):binD .lss (.sc (.int k a)) (.sc (.int k b))=some (B (decide (a<b))):=by simp [binD,binI]
theorem binK_leq (k:IntKind) (a b:Int):binD .leq (.sc (.int k a)) (.sc (.int k b))=some (B (decide (a≤b))):=by simp [binD,binI]
theorem binK_gtr (k:IntKind) (a b:Int):binD .gtr (.sc (.int k a)) (.sc (.int k b))=some (B (decide (b<a))):=by simp [binD,binI]
theorem binK_geq (k:IntKind) (a b:Int):binD .geq (.sc (.int k a)) (.sc (.int k b))=some (B (decide (b≤a))):=by simp [binD,binI]
noncomputable def orI:Int→Int→Int:=hid fun a b=>IntKind.i64.wrap ((a % 18446744073709551616).toNat ||| (b % 18446744073709551616).toNat:Nat)
noncomputable def andI:Int→Int→Int:=hid fun a b=>IntKind.i64.wrap ((a % 18446744073709551616).toNat &&& (b % 18446744073709551616).toNat:Nat)
noncomputable def andnI:Int→Int→Int:=hid fun a b=>IntKind.i64.wrap ((a % 18446744073709551616).toNat &&& (18446744073709551615-(b % 18446744073709551616).toNat):Nat)
theorem orI_def (a b:Int):orI a b=IntKind.i64.wrap ((a % 18446744073709551616).toNat ||| (b % 18446744073709551616).toNat:Nat):=by unfold orI;rw [hid_eq]
theorem andI_def (a b:Int):andI a b=IntKind.i64.wrap ((a % 18446744073709551616).toNat &&& (b % 18446744073709551616).toNat:Nat):=by unfold andI;rw [hid_eq]
theorem andnI_def (a b:Int):andnI a b=IntKind.i64.wrap ((a % 18446744073709551616).toNat &&& (18446744073709551615-(b % 18446744073709551616).toNat):Nat):=by unfold andnI;rw [hid_eq]
theorem binD_or (a b:Int):binD .or (I a) (I b)=some (I (orI a b)):=by
 show some (I (IntKind.i64.wrap ((BitVec.ofInt 64 a ||| BitVec.ofInt 64 b).toNat:Int)))=_
 simp [orI_def,BitVec.toNat_or,BitVec.toNat_ofInt]
theorem binD_and (a b:Int):binD .and (I a) (I b)=some (I (andI a b)):=by
 show some (I (IntKind.i64.wrap ((BitVec.ofInt 64 a &&& BitVec.ofInt 64 b).toNat:Int)))=_
 simp [andI_def,BitVec.toNat_and,BitVec.toNat_ofInt]
theorem binD_andn (a b:Int):binD .andNot (I a) (I b)=some (I (andnI a b)):=by
 show some (I (IntKind.i64.wrap ((BitVec.ofInt 64 a &&& ~~~ BitVec.ofInt 64 b).toNat:Int)))=_
 simp [andnI_def,BitVec.toNat_and,BitVec.toNat_not,BitVec.toNat_ofInt]
noncomputable def shlI:Int→Int→Int:=hid fun a b=>IntKind.i64.wrap (a*2 ^ (min b.toNat 64))
noncomputable def shrI:Int→Int→Int:=hid fun a b=>a.fdiv (2 ^ (min b.toNat 64))
theorem shlI_def (a b:Int):shlI a b=IntKind.i64.wrap (a*2 ^ (min b.toNat 64)):=by unfold shlI;rw [hid_eq]
theorem shrI_def (a b:Int):shrI a b=a.fdiv (2 ^ (min b.toNat 64)):=by unfold shrI;rw [hid_eq]
theorem binD_shl (k:IntKind) (a b:Int) (h:0≤b):binD .shl (I a) (.sc (.int k b))=some (I (shlI a b)):=by simp [binD,shI,shlI_def,IntKind.bits,Int.not_lt.2 h]
theorem binD_shr (k:IntKind) (a b:Int) (h:0≤b):binD .shr (I a) (.sc (.int k b))=some (I (shrI a b)):=by simp [binD,shI,shrI_def,IntKind.bits,Int.not_lt.2 h]
theorem wrap_i32 (n:Int) (h0 : -2147483648≤n) (h1:n≤2147483647):IntKind.i32.wrap n=n:=by
 have e1:IntKind.i32.wrap n=if decide (n % 4294967296≥2147483648)=true then n % 4294967296-4294967296 else n % 4294967296:=rfl
 rw [e1]
 simp only [decide_eq_true_eq]
 split<;>omega
theorem wrap_u8 (n:Int) (h0:0≤n) (h1:n≤255):IntKind.u8.wrap n=n:=by
 have e1:IntKind.u8.wrap n=n % 256:=rfl
 rw [e1]
 omega
theorem tmod_neg {n d:Int} (hd:0<d) (h:n.tmod d<0):n.tmod d+d=n % d:=by
 have h0:=Int.emod_nonneg n (b:=d) (by omega)
 rw [Int.tmod_eq_emod] at h ⊢
 split<;>rename_i h1
 ·rw [if_pos h1] at h;omega
 ·omega
theorem tmod_pos {n d:Int} (hd:0<d) (h:¬n.tmod d<0):n.tmod d=n % d:=by
 have h0:=Int.emod_lt_of_pos n hd
 rw [Int.tmod_eq_emod] at h ⊢
 split<;>rename_i h1
 ·omega
 ·rw [if_neg h1] at h;omega
theorem plains_I:∀ l:List Int,plains (l.map I)=true
 | []=>rfl
 | n :: l=>by simp [plains,plain,plains_I l]
theorem eqDs_I:∀ l:List Int,eqDs (l.map I) (l.map I)=true
 | []=>rfl
 | n :: l=>by simp [eqDs,eqD,eqSc,eqDs_I l]
theorem isROs_I:∀ l:List Int,isROs (l.map I)=true
 | []=>rfl
 | n :: l=>by simp [isROs,isRO,isROs_I l]
theorem take_snoc {α:Type} {l:List α} {i:Nat} {x:α} (h:l[i]? = some x):l.take (i+1)=l.take i++[x]:=by
 rw [List.take_add_one,h];rfl
theorem get_of {α:Type} {l:List α} {i:Nat} {x:α} (g:l[i]? = some x):∀ h:i<l.length,l[i]'h=x:=fun h=>by
 rw [List.getElem?_eq_getElem h] at g
 injection g
theorem clampEq {l h:Int} (hl:l≤h) (x:Int):mxI l (mnI x h)=mnI (mxI x l) h:=by
 unfold mxI mnI
 repeat' split
 all_goals omega
section
variable (v:Value) (ds ks:List D) (n m p q:Nat) (b:Bool)
@[simp] theorem isCell_sc:isCellD (.sc v)=true:=rfl
@[simp] theorem isCell_agg:isCellD (.agg ds)=false:=rfl
@[simp] theorem isCell_tup:isCellD (.tup ds)=false:=rfl
@[simp] theorem isCell_sl:isCellD (.sl n ds)=true:=rfl
@[simp] theorem isCell_osl:isCellD (.osl b n ds)=true:=rfl
@[simp] theorem isCell_obx:isCellD (.obx ds)=true:=rfl
@[simp] theorem isCell_ep:isCellD (.ep ds)=true:=rfl
@[simp] theorem isCell_nl:isCellD .nl=true:=rfl
@[simp] theorem isCell_sn:isCellD .sn=true:=rfl
@[simp] theorem isCell_rf:isCellD (.rf n m p q)=true:=rfl
@[simp] theorem isCell_pt:isCellD (.pt n m p q)=true:=rfl
@[simp] theorem isCell_fn:isCellD (.fn n ds)=true:=rfl
@[simp] theorem isCell_omp:isCellD (.omp ks ds)=true:=rfl
@[simp] theorem isCell_mp:isCellD (.mp n)=true:=rfl
@[simp] theorem isCell_uk:isCellD .uk=true:=rfl
@[simp] theorem isCell_un:isCellD .un=false:=rfl
end
attribute [simp] copyD clrD mxD mnD findK eqK getK putK isSomeTrue inlK_nrm inlK_ret Vo.mv Vo.mk Vo.ld Vo.la Vo.st Vo.sk Vo.fa Vo.fg Vo.ga Vo.ix Vo.bn Vo.bk Vo.cl Vo.ex Vo.ln Vo.bx Vo.al Vo.o Vo.p Vo.g Vo.gp Vo.rg Vo.i Vo.u Vo.r Vo.q Vo.c Vo.f Vo.w Vo.m bodyR_eq trimK_ap trimR keepD keepOb finK_nrm finK_ret seqK_nrm seqK_ret seqK_exit blkK_nrm blkK_ret blkK_exit evB_seq evB_reg evB_dregQ quietReg quietOp qB_nil qB_bar qB_free qbarK_ap qfreeK_ap evB_ret evB_skip evB_exit evB_block evB_cond stB_cons stB_nil
 nrmK_ap tailK_ap drB_nil drB_bar drB_free barK_ap freeK_ap freeC_ap loopF_eq foldK_ap condK_B isCall wanted evX ov ovs lk putE putH envFrom eats D.int D.bool D.str D.cells noTree noTrees isRO isROs cellsAt part
 slD lenD isStr natOf bnds storeD appendD appendY slcD putCells buildD fillD chunks elemOf frz1 idsD idsDs rof rofs roD roDs unf unfs thr fld depth isNil eqaD eqLeaves eqLeaf unaD cviD binbD binB stepO_0 stepO_g stepX_0
 stepX_g putX_ap putS_none putS_some putC_ap gdK_B gdK_tup evCall callM callQ callO argF plain plains idsRO restore isAlive settle accX clash loX accS inertX idOf isSomeTrue noclB apart rdS rdX rdO rdOs rdM kept sameBx
 eqD eqDs eqSc resDs resD foldR foldM foldL unfL canon outs one
 binD_add binD_sub binD_lss binD_leq binD_gtr binD_geq binD_eql binD_neq binD_or binD_and binD_andn binD_shl binD_shr binK_eql binK_neq binK_lss binK_leq binK_gtr binK_geq binD_mul binD_rem binD_quo
end Lg
namespace Lg
open Go
set_option linter.unusedVariables false
set_option linter.unusedSimpArgs false
structure Pn where
 f:Int
 b:Int
 g:Int
 deriving DecidableEq,Inhabited
structure Cel where
 r:Int
 k:Int
 p:Pn
 deriving DecidableEq,Inhabited
structure Gd where
 h:Nat
 w:Nat
 cells:List Cel
structure Sv where
 r:Int
 c:Int
 p:Pn
 u0:Int
 u1:Int
 sh:Int
 o:Bool
 deriving DecidableEq
structure Sc where
 g:Gd
 row:Int
 col:Int
 pend:Bool
 top:Int
 bot:Int
 p:Pn
 tabs:Nat
 s0:Int
 s1:Int
 sh:Int
 wrap:Bool
 orig:Bool
 shown:Bool
 keys:Bool
 pad:Bool
 sv:Sv
structure Ev where
 k:Int
 r:Int
 pr:Int
 it:Int
 fi:Int
 ps:Option (List Int)
 tx:List UInt8
abbrev pnD (p:Pn):D:= .agg [I p.f,I p.b,I p.g]
abbrev celD (c:Cel):D:= .agg [R c.r,I c.k,I c.p.f,I c.p.b,I c.p.g]
def celsD (l:List Cel):List D:=l.map fun c=>celD c
abbrev gdD (g:Gd):D:= .agg [I g.h,I g.w, .sl 5 (celsD g.cells)]
abbrev gdO (g:Gd):D:= .agg [I g.h,I g.w, .osl true 5 (celsD g.cells)]
abbrev scL (s:Sc):List D:=[I s.g.h,I s.g.w, .sl 5 (celsD s.g.cells),I s.row,I s.col,B s.pend,I s.top,I s.bot,I s.p.f,I s.p.b,I s.p.g,T64 s.tabs,U s.s0,U s.s1,I s.sh,B s.wrap,B s.orig,B s.shown,B s.keys,B s.pad,I s.sv.r,I s.sv.c,I s.sv.p.f,I s.sv.p.b,I s.sv.p.g,U s.sv.u0,U s.sv.u1,I s.sv.sh,B s.sv.o]
abbrev scD (s:Sc):D:= .agg (scL s)
def intsD (l:List Int):List D:=l.map fun n=>I n
def parD:Option (List Int)→D
 | none=> .sn
 | some l=> .sl 1 (intsD l)
abbrev evL (e:Ev):List D:=[I e.k,R e.r,U e.pr,U e.it,U e.fi,parD e.ps,S e.tx]
abbrev evD (e:Ev):D:= .agg (evL e)
def Ev.par (e:Ev):List Int:=e.ps.getD []
section
variable (l k:List Cel) (n:Nat)
@[simp] theorem celsD_nil:celsD []=[]:=rfl
@[simp] theorem celsD_len:(celsD l).length=l.length:=by simp [celsD]
@[simp] theorem celsD_take:(celsD l).take n=celsD (l.take n):=by simp [celsD]
@[simp] theorem celsD_drop:(celsD l).drop n=celsD (l.drop n):=by simp [celsD]
@[simp] theorem celsD_app:celsD l++celsD k=celsD (l++k):=by simp [celsD]
@[simp] theorem celsD_snoc (r q f b g:Int):celsD l++[(.agg [R r,I q,I f,I b,I g]:D)]=celsD (l++[⟨r,q,⟨f,b,g⟩⟩]):=by simp [celsD]
@[simp] theorem celsD_rep (r q f b g:Int):List.replicate n (.agg [R r,I q,I f,I b,I g]:D)=celsD (List.replicate n ⟨r,q,⟨f,b,g⟩⟩):=by simp [celsD]
theorem celsD_get:(celsD l)[n]? = (l[n]?).map fun c=>celD c:=by simp [celsD]
@[simp] theorem celsD_set (r q f b g:Int):(celsD l).set n (.agg [R r,I q,I f,I b,I g])=celsD (l.set n ⟨r,q,⟨f,b,g⟩⟩):=by
 unfold celsD
 rw [List.map_set]
@[simp] theorem celsD_ro:isROs (celsD l)=true:=by
 induction l with
 | nil=>rfl
 | cons c l ih=>simp only [celsD,List.map_cons] at ih ⊢;simp [isROs,isRO,ih]
@[simp] theorem celsD_plain:plains (celsD l)=true:=by
 induction l with
 | nil=>rfl
 | cons c l ih=>simp only [celsD,List.map_cons] at ih ⊢;simp [plains,plain,ih]
@[simp] theorem celsD_eq:eqDs (celsD l) (celsD l)=true:=by
 induction l with
 | nil=>rfl
 | cons c l ih=>simp only [celsD,List.map_cons] at ih ⊢;simp [eqDs,eqD,eqSc,ih]
theorem celsD_getD {l:List Cel} {n:Nat} {c:Cel} (h:l[n]? = some c):(celsD l)[n]? = some (celD c):=by rw [celsD_get,h];rfl
theorem celsD_at {l:List Cel} {n:Nat} {c:Cel} (h:l[n]? = some c):∀ h':n<(celsD l).length,(celsD l)[n]'h'=celD c:=get_of (celsD_getD h)
@[simp] theorem celsD_isnil:(celsD l=[])↔l=[]:=by simp [celsD]
end
section
variable (l k:List Int) (n:Nat)
@[simp] theorem intsD_nil:intsD []=[]:=rfl
@[simp] theorem intsD_len:(intsD l).length=l.length:=by simp [intsD]
@[simp] theorem intsD_take:(intsD l).take n=intsD (l.take n):=by simp [intsD]
@[simp] theorem intsD_drop:(intsD l).drop n=intsD (l.drop n):=by simp [intsD]
@[simp] theorem intsD_app:intsD l++intsD k=intsD (l++k):=by simp [intsD]
@[simp] theorem intsD_snoc (a:Int):intsD l++[I a]=intsD (l++[a]):=by simp [intsD]
theorem intsD_get:(intsD l)[n]? = (l[n]?).map fun c=>I c:=by simp [intsD]
@[simp] theorem intsD_ro:isROs (intsD l)=true:=isROs_I l
@[simp] theorem intsD_plain:plains (intsD l)=true:=plains_I l
@[simp] theorem intsD_eq:eqDs (intsD l) (intsD l)=true:=eqDs_I l
theorem intsD_getD {l:List Int} {n:Nat} {c:Int} (h:l[n]? = some c):(intsD l)[n]? = some (I c):=by rw [intsD_get,h];rfl
theorem intsD_at {l:List Int} {n:Nat} {c:Int} (h:l[n]? = some c):∀ h':n<(intsD l).length,(intsD l)[n]'h'=I c:=get_of (intsD_getD h)
end
end Lg
