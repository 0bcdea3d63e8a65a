import Derived.Test.YtlpchliomdomdaaGreatPt2
import Derived.Below
namespace Lg
open Go
set_option linter.unusedVariables false
set_option linter.unusedSimpArgs false
set_option linter.unusedSectionVars false
structure Obs (fid:Nat→FuncId) (Cb:Nat→Prop) (w:World) (A:Av) (ι:Io) (H:List Ob):Prop where
 al:∀ b off,A b off→b<w.heap.size
 cb:∀ b,w.heap.size≤b→Cb b
 ob:∀ i,ObjOK fid w A ι (ι i) (obAt H i)
 sp:Sep Cb ι H (fun _=>[])
def Ext (ι ι':Io):Prop:=∀ i q,ι i=some q→ι' i=some q
theorem Ext.refl (ι:Io):Ext ι ι:=fun _ _ h=>h
theorem Ext.trans {ι ι1 ι2:Io} (h:Ext ι ι1) (k:Ext ι1 ι2):Ext ι ι2:=fun i q e=>k i q (h i q e)
def no:Nat→List Nat:=fun _=>[]
def ClW (P:Program) (fid:Nat→FuncId) (wf:Nat→List D→List Ob→Option (D×List Ob)):Prop :=
 ∀ (f:Nat) (as:List D) (H:List Ob) (d:D) (H':List Ob),wf f as H=some (d,H')→Entered P (fid f)∧∀ (w:World) (A:Av) (ι:Io) (Cb:Nat→Prop) (vs:List Value),Obs fid Cb w A ι H→LVs fid w A ι true vs as [] →
  Calls P (fid f) ⟨vs⟩ w (fun e w'=>∃ v A' ι',e = .returned v∧Keep w w' A A' Cb∧Ext ι ι'∧Obs fid Cb w' A' ι' H'∧LV fid w' A' ι' true v d [])
section
variable {P:Program} {num:FuncId→Option Nat} {fid:Nat→FuncId} (hnum:∀ f g,num f=some g→fid g=f)
 {w0:World} {A0:Av} {Cb:Nat→Prop} {nt:Nt} {w w':World} {A A':Av} {ι ι':Io} {a:Act} {E E':Env} {H H':List Ob} {own:Nat→List Nat}
theorem St.obs (S:St fid w0 A0 Cb nt w A ι a E H own) (ho:own=no):Obs fid Cb w A ι H :=
 ⟨S.al,fun b h=>S.cb b (Nat.le_trans S.kp.size h),S.ob,by subst ho;exact S.sp⟩
theorem St.of_obs (S:St fid w0 A0 Cb nt w A ι a E H own) (ho:own=no) (K:Keep w w' A A' Cb) (hx:Ext ι ι') (B:Obs fid Cb w' A' ι' H'):St fid w0 A0 Cb nt w' A' ι' a E H' no:=by
 subst ho
 exact ⟨S.kp.trans K (fun b h=> .inl h) (fun b h=> .inl h),B.al,S.cb,S.sz,S.fx,S.df,fun t=>LV.keep K hx (S.lv t) (by simp [no]),B.ob,B.sp⟩
theorem isCall_cases {op:SOp} (h:isCall op=true):(∃ f xs,op = .call false f xs)∨∃ f xs,op = .callv false f xs:=by
 cases op<;>simp only [isCall] at h<;>try (cases h;done)
 ·rename_i q f xs;cases q
  ·exact .inl ⟨f,xs,rfl⟩
  ·cases h
 ·rename_i q f xs;cases q
  ·exact .inr ⟨f,xs,rfl⟩
  ·cases h
def NC (s:Option SOp):Prop:=∀ x,s=some x→isCall x=false
theorem NC.none:NC none:=by intro x h;cases h
theorem NC.some {s:SOp} (h:isCall s=false):NC (some s):=by intro x e;injection e with e;rw [←e];exact h
theorem NC.bind {α:Type} {o:Option α} {f:α→Option SOp} (h:∀ a,NC (f a)):NC (o.bind f):=by
 intro x e;obtain ⟨a,_,e⟩:=Option.bind_eq_some_iff.1 e;exact h a x e
theorem NC.map {α:Type} {o:Option α} {f:α→SOp} (h:∀ a,isCall (f a)=false):NC (o.map f):=by
 intro x e;obtain ⟨a,_,e⟩:=Option.map_eq_some_iff.1 e;rw [←e];exact h a
theorem compOp_nc {q own':Bool} {op:Op} (hn:∀ c,op≠ .call c):NC (compOp0 P num q own' op):=by
 cases op<;>simp only [compOp0]
 all_goals first | (exact absurd rfl (hn _)) | skip
 all_goals repeat' first
  | exact NC.none
  | exact NC.some rfl
  | exact NC.map fun _=>rfl
  | refine NC.bind fun _=>?_
  | split
theorem compBuiltin_nc {b:Builtin} {args:List Operand} {ts:List TypeId}:NC (compBuiltin P num b args ts):=by
 unfold compBuiltin
 repeat' first
  | exact NC.none
  | exact NC.some rfl
  | exact NC.map fun _=>rfl
  | refine NC.bind fun _=>?_
  | split
theorem comp_call {q own':Bool} {op:Op} {s:SOp} (h:compOp P num q own' op=some s) (hs:isCall s=true):∃ c,op = .call c∧compCall P num q own' c=some s:=by
 by_cases hc:∃ c,op = .call c
 ·obtain ⟨c,rfl⟩:=hc
  rcases compOp_some h with h | rfl
  ·exact ⟨c,rfl,by simpa [compOp0] using h⟩
  ·simp [isCall] at hs
 ·rcases compOp_some h with h | rfl
  ·have:=compOp_nc (P:=P) (num:=num) (q:=q) (own':=own') (op:=op) (fun c e=>hc ⟨c,e⟩) s h
   rw [this] at hs;cases hs
  ·simp [isCall] at hs
def wpO (P:Program) (ops:Array Oper) (o:Oper) (K:Act→World→Prop) (Q:Exit→Act→World→Prop) (a:Act) (w:World):Prop :=
 if Region.wanted o (yielded ops a.tmps) then o.wp P a w K Q∨(o.asks P a w∧LetsOut Q) else K (a.put o.dst undef) w
theorem compOper_some {ops:Array Oper} {q:Bool} {o:Oper} {s:SOper} (h:compOper P num nt.1 ops q o=some s) :
  (∀ x,x∈o.op.operands.toList→okOpd x=true)∧(∀ d,o.dst=some d→nt.1 d=true)∧(∃ own',compOp P num q own' o.op=some s.op)∧s.dst=o.dst ∧
   ((o.guard=none∧s.guard=none)∨∃ j b t,o.guard=some (j,b)∧(ops[j]?).bind (·.dst)=some t∧s.guard=some (t,b)):=by
 unfold compOper at h
 split at h
 ·cases h
 ·rename_i hok
  simp only [Bool.not_eq_true,Bool.not_eq_false'] at hok
  simp only [okOper,Bool.and_eq_true,List.all_eq_true] at hok
  obtain ⟨op,hop,h⟩:=Option.bind_eq_some_iff.1 h
  refine ⟨hok.1,fun d hd=>?_,?_⟩
  ·have:=hok.2;rw [hd] at this;simpa using this
  ·split at h
   ·rename_i hg
    injection h with h;subst h
    exact ⟨⟨_,hop⟩,rfl, .inl ⟨hg,rfl⟩⟩
   ·rename_i j b hg
    split at h
    ·rename_i t ht
     injection h with h;subst h
     exact ⟨⟨_,hop⟩,rfl, .inr ⟨j,b,t,hg,ht,rfl⟩⟩
    ·cases h
theorem wanted_sound {ops:Array Oper} {q:Bool} {o:Oper} {s:SOper} (h:compOper P num nt.1 ops q o=some s) (S:St fid w0 A0 Cb nt w A ι a E H own) {b:Bool} (hw:wanted E s.guard=some b):Region.wanted o (yielded ops a.tmps)=b:=by
 obtain ⟨_,_,_,_,hg⟩:=compOper_some h
 rcases hg with ⟨h1,h2⟩ | ⟨j,c,t,h1,h2,h3⟩
 ·rw [h2] at hw;simp [wanted] at hw
  simp [Region.wanted,h1,hw]
 ·rw [h3] at hw
  simp only [wanted] at hw
  split at hw
  ·rename_i x hx
   injection hw with hw;subst hw
   have l:=S.lv t
   rw [hx] at l
   have e:=l.inv_bool.1
   have ht:a.tmps[t]? = some (.bool x):=by
    rw [Array.getD_eq_getD_getElem?] at e
    cases hh:a.tmps[t]? with
    | none=>rw [hh] at e;cases e
    | some y=>rw [hh] at e;simp at e;rw [e]
   simp [Region.wanted,h1,yielded,h2,ht]
  ·rename_i hx
   injection hw with hw;subst hw
   have l:=S.lv t
   rw [hx] at l
   obtain ⟨vs,e,lvs⟩:=l.inv_tup
   have hvs:vs=[]:=List.length_eq_zero_iff.1 lvs.length_eq
   subst hvs
   rw [Array.getD_eq_getD_getElem?] at e
   cases hh:a.tmps[t]? with
   | none=>simp [Region.wanted,h1,yielded,h2,hh]
   | some y=>rw [hh] at e;simp at e;subst e;simp [Region.wanted,h1,yielded,h2,hh]
  ·cases hw
theorem stepX_sound {cl:Cl} (hr:ClR P fid cl.r) {ops:Array Oper} {q:Bool} {o:Oper} {s:SOper} (h:compOper P num nt.1 ops q o=some s) (S:St fid w0 A0 Cb nt w A ι a E H own) {d:D} {eat:Option Nat} {u:Option (Nat×Ob)}
  (he:stepX cl s E H=some (d,eat,u)) (hnum:∀ f g,num f=some g→fid g=f) {K:Act→World→Prop} {Q:Exit→Act→World→Prop}
  (hK:∀ a' w' A' O,St fid w0 A0 Cb nt w' A' ι a' (putE s.dst d (putE eat .un E)) (putH u H) (put1 (put1 own eat []) s.dst O)→K a' w'):wpO P ops o K Q a w:=by
 obtain ⟨hk,hd,⟨own',hop⟩,hdst,_⟩:=compOper_some h
 unfold stepX at he
 unfold wpO
 split at he
 ·rename_i hw
  rw [wanted_sound h S hw,if_pos rfl]
  obtain ⟨⟨d1,u1⟩,h1,h2⟩:=Option.map_eq_some_iff.1 he
  simp only [Prod.mk.injEq] at h2
  obtain ⟨rfl,rfl,rfl⟩:=h2
  refine .inl (evX_sound hnum hr S.lv S.ob S.al hk hop h1 K Q fun v w' A' O X=>?_)
  have:=S.step X (dst:=o.dst) hd
  rw [hdst] at hK
  exact hK _ w' A' O this
 ·rename_i hw
  rw [wanted_sound h S hw,if_neg (by simp)]
  injection he with he
  simp only [Prod.mk.injEq] at he
  obtain ⟨rfl,rfl,rfl⟩:=he
  have X:XR fid w w A A ι H (eaten own none) undef (.tup []) none []:=XR.val (.tup [] [] [] .nil)
  have:=S.step X (dst:=o.dst) hd
  rw [hdst] at hK
  exact hK _ w A [] this
 ·cases he
include hnum in
theorem args_no {xs:List Operand} (S:St fid w0 A0 Cb nt w A ι a E H no) (hk:∀ x,x∈xs→okOpd x=true):LVs fid w A ι true (xs.map a.eval) (xs.map fun x=>ov E (opd num x)) []:=by
 induction xs with
 | nil=>exact .nil
 | cons x xs ih =>
  have l:=lv_opd hnum S.lv x (hk x (by simp))
  have e:ownX no x=[]:=by cases x<;>rfl
  rw [e] at l
  exact LVs.cons' l (ih (fun y hy=>hk y (by simp [hy])))
theorem St.obsO (S:St fid w0 A0 Cb nt w A ι a E H own):Obs fid (fun b=>Cb b∧∀ t,b∉own t) w A ι H :=
 ⟨S.al,fun b h=>⟨S.cb b (Nat.le_trans S.kp.size h),fun t hb=>by have:=S.own_lt t b hb;omega⟩,S.ob,
  ⟨S.sp.len,fun i b ha hi=>⟨S.sp.ib i b ha hi,fun t hb=>S.sp.to t b i hb ha hi⟩,S.sp.inj,by simp,by simp,by simp,by simp⟩⟩
theorem St.of_obsO (S:St fid w0 A0 Cb nt w A ι a E H own) (K:Keep w w' A A' (fun b=>Cb b∧∀ t,b∉own t)) (hx:Ext ι ι') (B:Obs fid (fun b=>Cb b∧∀ t,b∉own t) w' A' ι' H'):St fid w0 A0 Cb nt w' A' ι' a E H' own :=
 ⟨S.kp.trans K (fun b h=> .inl h) (fun b h=> .inl h.1),B.al,S.cb,S.sz,S.fx,S.df,fun t=>LV.keep K hx (S.lv t) (fun b hb hc=>hc.2 t hb),B.ob,
  ⟨B.sp.len,fun i b ha hi=>(B.sp.ib i b ha hi).1,B.sp.inj,S.sp.tb,fun t b i hb ha hi=>(B.sp.ib i b ha hi).2 t hb,S.sp.nd,S.sp.ap⟩⟩
include hnum in
theorem args_nt {xs:List Operand} (S:St fid w0 A0 Cb nt w A ι a E H own) (hk:∀ x,x∈xs→okOpd x=true) (hn:∀ t,t∈rdOs (xs.map (opd num))→noTree (lk E t)=true):LVs fid w A ι true (xs.map a.eval) (xs.map fun x=>ov E (opd num x)) []:=by
 induction xs with
 | nil=>exact .nil
 | cons x xs ih =>
  have l:=lv_opd hnum S.lv x (hk x (by simp))
  have e:ownX own x=[]:=by
   cases x with
   | tmp t=>exact (S.lv t).noTree (hn t (by simp [rdOs,opd,rdO]))
   | _=>rfl
  rw [e] at l
  refine LVs.cons' l (ih (fun y hy=>hk y (by simp [hy])) (fun t ht=>hn t ?_))
  simp only [rdOs,List.map_cons,List.flatMap_cons] at ht ⊢
  exact List.mem_append_right _ ht
theorem stepW_sound {cl:Cl} (hcw:ClW P fid cl.w) {ops:Array Oper} {q:Bool} {o:Oper} {s:SOper} (h:compOper P num nt.1 ops q o=some s) (S:St fid w0 A0 Cb nt w A ι a E H own) (hcall:isCall s.op=true) (hnt:∀ t,t∈rdS s→noTree (lk E t)=true)
  (he:stepO cl s E H=some (E',H')) (hnum:∀ f g,num f=some g→fid g=f) {K:Act→World→Prop} {Q:Exit→Act→World→Prop}
  (hK:∀ a' w' A' ι',St fid w0 A0 Cb nt w' A' ι' a' E' H' (put1 own s.dst [])→Ext ι ι'→K a' w'):wpO P ops o K Q a w:=by
 obtain ⟨hk,hd,⟨own',hop⟩,hdst,_⟩:=compOper_some h
 unfold stepO at he
 rw [if_pos hcall] at he
 ·unfold wpO
  split at he
  ·rename_i hw
   rw [wanted_sound h S hw,if_pos rfl]
   left
   obtain ⟨⟨d,H1⟩,h1,h2⟩:=Option.map_eq_some_iff.1 he
   simp only [Prod.mk.injEq] at h2
   obtain ⟨rfl,rfl⟩:=h2
   have fin:∀ (g:Nat) (as:List D) (vs:List Value),cl.w g as H=some (d,H1)→LVs fid w A ι true vs as []→(Entered P (fid g)→(execOp a.eval o).run P w = .ok (.enter (fid g) ⟨vs⟩) w)→o.wp P a w K Q:=by
    intro g as vs hh l hrun
    obtain ⟨hent,hc⟩:=hcw g as H d H1 hh
    unfold Oper.wp
    rw [hrun hent,Oper.upon_enter]
    refine Calls.mono (hc w A ι _ vs S.obsO l) fun e w' hx=>?_
    obtain ⟨v,A',ι',rfl,K1,hext,B,lv⟩:=hx
    have S1:=S.of_obsO K1 hext B
    have S2:=S1.put (dst:=o.dst) hd lv
    rw [←hdst] at S2
    have:=hK _ w' A' ι' S2 hext
    rwa [hdst] at this
   obtain ⟨c,ho,hc⟩:=comp_call hop hcall
   rw [ho] at hk
   obtain ⟨callee,args,ts⟩:=c
   simp only [compCall] at hc
   split at hc
   ·rename_i f
    obtain ⟨g,hg,hse⟩:=Option.map_eq_some_iff.1 hc
    have hfg:=hnum f g hg
    subst hfg
    split at hse
    ·rw [←hse] at hcall;cases hcall
    rw [←hse] at hcall h1
    cases q with
    | true=>cases hcall
    | false =>
     simp only [evCall] at h1
     rw [ovs_opds] at h1
     have l:=args_nt hnum (xs:=args.toList) S (fun x hx=>hk x (by simp [Op.operands,Call.operands];exact .inr (by simpa using hx))) (fun t ht=>hnt t (by rw [rdS,←hse];exact List.mem_append_left _ (by simpa [rdX,opds] using ht)))
     refine fin g _ _ h1 l fun hent=>?_
     have he:(⟨args.toList.map a.eval⟩:Array Value)=args.map a.eval:=by apply Array.ext';simp
     rw [he]
     have:=run_callFunc_enter (w:=w) (args:=args.map a.eval) hent
     simpa [execOp,ho,resolve,Deferred.ofValue,Act.eval,invoke,Sem.run_bind] using this
   ·rename_i t
    injection hc with hse
    rw [←hse] at hcall h1
    cases q with
    | true=>cases hcall
    | false =>
     simp only [evCall,ov] at h1
     split at h1
     ·rename_i g caps e1
      rw [ovs_opds] at h1
      have l:=args_nt hnum (xs:=args.toList) S (fun x hx=>hk x (by simp [Op.operands,Call.operands];exact .inr (by simpa using hx))) (fun t ht=>hnt t (by rw [rdS,←hse];exact List.mem_append_left _ (List.mem_append_right _ (by simpa [opds] using ht))))
      have lf:=S.lv t
      rw [lf.noTree (hnt t (by rw [rdS,←hse];exact List.mem_append_left _ (List.mem_append_left _ (by simp [rdO]))))] at lf
      rw [e1] at lf
      obtain ⟨cv,ef,lc⟩:=lf.inv_fn
      have lall:LVs fid w A ι true (args.toList.map a.eval++cv) (args.toList.map (fun x=>ov E (opd num x))++caps) []:=l.append lc
      refine fin g _ _ h1 lall fun hent=>?_
      have he:(⟨args.toList.map a.eval++cv⟩:Array Value)=args.map a.eval++⟨cv⟩:=by apply Array.ext';simp
      rw [he]
      have:=run_callFunc_enter (w:=w) (args:=args.map a.eval++⟨cv⟩) hent
      have hev:a.eval (.tmp t) = .func (.func (fid g)) #[] ⟨cv⟩:=ef
      simp only [execOp,ho,resolve,hev,Deferred.ofValue,invoke,Sem.run_bind,Sem.run_pure,Result.andThen_ok,Array.empty_append]
      exact this
     ·cases h1
   ·have:=compBuiltin_nc _ hc
    rw [this] at hcall;cases hcall
   ·cases hc
  ·rename_i hw
   rw [wanted_sound h S hw,if_neg (by simp)]
   injection he with he
   simp only [Prod.mk.injEq] at he
   obtain ⟨rfl,rfl⟩:=he
   have S2:=S.put (dst:=o.dst) hd (LV.tup (r:=true) [] [] [] .nil)
   rw [←hdst] at S2
   have:=hK _ w A ι S2 (Ext.refl _)
   rwa [hdst] at this
  ·cases he
theorem stepO_sound {cl:Cl} (hr:ClR P fid cl.r) (hcw:ClW P fid cl.w) {ops:Array Oper} {q:Bool} {o:Oper} {s:SOper} (h:compOper P num nt.1 ops q o=some s) (S:St fid w0 A0 Cb nt w A ι a E H no)
  (he:stepO cl s E H=some (E',H')) (hnum:∀ f g,num f=some g→fid g=f) {K:Act→World→Prop} {Q:Exit→Act→World→Prop}
  (hK:∀ a' w' A' ι',St fid w0 A0 Cb nt w' A' ι' a' E' H' no→Ext ι ι'→K a' w'):wpO P ops o K Q a w:=by
 obtain ⟨hk,hd,⟨own',hop⟩,hdst,_⟩:=compOper_some h
 unfold stepO at he
 split at he
 ·rename_i hcall
  unfold wpO
  split at he
  ·rename_i hw
   rw [wanted_sound h S hw,if_pos rfl]
   left
   obtain ⟨⟨d,H1⟩,h1,h2⟩:=Option.map_eq_some_iff.1 he
   simp only [Prod.mk.injEq] at h2
   obtain ⟨rfl,rfl⟩:=h2
   have fin:∀ (g:Nat) (as:List D) (vs:List Value),cl.w g as H=some (d,H1)→LVs fid w A ι true vs as []→(Entered P (fid g)→(execOp a.eval o).run P w = .ok (.enter (fid g) ⟨vs⟩) w)→o.wp P a w K Q:=by
    intro g as vs hh l hrun
    obtain ⟨hent,hc⟩:=hcw g as H d H1 hh
    unfold Oper.wp
    rw [hrun hent,Oper.upon_enter]
    refine Calls.mono (hc w A ι Cb vs (S.obs rfl) l) fun e w' hx=>?_
    obtain ⟨v,A',ι',rfl,K1,hext,B,lv⟩:=hx
    have S1:=S.of_obs rfl K1 hext B
    have S2:=S1.put (dst:=o.dst) hd lv
    have e:put1 no o.dst []=no:=by funext t;simp [put1,no]
    rw [e,←hdst] at S2
    have:=hK _ w' A' ι' S2 hext
    rwa [hdst] at this
   obtain ⟨c,ho,hc⟩:=comp_call hop hcall
   rw [ho] at hk
   obtain ⟨callee,args,ts⟩:=c
   simp only [compCall] at hc
   split at hc
   ·rename_i f
    obtain ⟨g,hg,hse⟩:=Option.map_eq_some_iff.1 hc
    have hfg:=hnum f g hg
    subst hfg
    split at hse
    ·rw [←hse] at hcall;cases hcall
    rw [←hse] at hcall h1
    cases q with
    | true=>cases hcall
    | false =>
     simp only [evCall] at h1
     rw [ovs_opds] at h1
     have l:=args_no hnum (xs:=args.toList) S (fun x hx=>hk x (by simp [Op.operands,Call.operands];exact .inr (by simpa using hx)))
     refine fin g _ _ h1 l fun hent=>?_
     have he:(⟨args.toList.map a.eval⟩:Array Value)=args.map a.eval:=by apply Array.ext';simp
     rw [he]
     have:=run_callFunc_enter (w:=w) (args:=args.map a.eval) hent
     simpa [execOp,ho,resolve,Deferred.ofValue,Act.eval,invoke,Sem.run_bind] using this
   ·rename_i t
    injection hc with hse
    rw [←hse] at hcall h1
    cases q with
    | true=>cases hcall
    | false =>
     simp only [evCall,ov] at h1
     split at h1
     ·rename_i g caps e1
      rw [ovs_opds] at h1
      have l:=args_no hnum (xs:=args.toList) S (fun x hx=>hk x (by simp [Op.operands,Call.operands];exact .inr (by simpa using hx)))
      have lf:=S.lv t
      rw [e1] at lf
      obtain ⟨cv,ef,lc⟩:=lf.inv_fn
      have lall:LVs fid w A ι true (args.toList.map a.eval++cv) (args.toList.map (fun x=>ov E (opd num x))++caps) []:=l.append lc
      refine fin g _ _ h1 lall fun hent=>?_
      have he:(⟨args.toList.map a.eval++cv⟩:Array Value)=args.map a.eval++⟨cv⟩:=by apply Array.ext';simp
      rw [he]
      have:=run_callFunc_enter (w:=w) (args:=args.map a.eval++⟨cv⟩) hent
      have hev:a.eval (.tmp t) = .func (.func (fid g)) #[] ⟨cv⟩:=ef
      simp only [execOp,ho,resolve,hev,Deferred.ofValue,invoke,Sem.run_bind,Sem.run_pure,Result.andThen_ok,Array.empty_append]
      exact this
     ·cases h1
   ·have:=compBuiltin_nc _ hc
    rw [this] at hcall;cases hcall
   ·cases hc
  ·rename_i hw
   rw [wanted_sound h S hw,if_neg (by simp)]
   injection he with he
   simp only [Prod.mk.injEq] at he
   obtain ⟨rfl,rfl⟩:=he
   have S2:=S.put (dst:=o.dst) hd (LV.tup (r:=true) [] [] [] .nil)
   have e:put1 no o.dst []=no:=by funext t;simp [put1,no]
   rw [e,←hdst] at S2
   have:=hK _ w A ι S2 (Ext.refl _)
   rwa [hdst] at this
  ·cases he
 ·obtain ⟨⟨d,eat,u⟩,h1,h2⟩:=Option.map_eq_some_iff.1 he
  refine stepX_sound hr h S h1 hnum fun a' w' A' O S1=>?_
  simp only at h2
  split at h2
  ·rename_i hdn
   simp only [Prod.mk.injEq] at h2
   obtain ⟨rfl,rfl⟩:=h2
   rw [hdn] at S1
   have e:put1 (put1 no eat []) none O=no:=by funext t;simp [put1,no]
   rw [e] at S1
   exact hK a' w' A' ι S1 (Ext.refl _)
  ·rename_i t hdt
   simp only [Prod.mk.injEq] at h2
   obtain ⟨rfl,rfl⟩:=h2
   rw [hdt] at S1
   obtain ⟨ι',S2,hx⟩:=S1.settle1 t
   have e1:lk (putE (some t) d (putE eat .un E)) t=d:=by simp [putE,lk]
   rw [e1] at S2
   have e:put1 (put1 (put1 no eat []) (some t) O) (some t) []=no:=by
    funext t';simp only [put1,no]
    by_cases x:some t=some t'<;>simp [x]
   rw [e] at S2
   refine hK a' w' A' ι' (S2.lk fun t'=>?_) hx
   simp only [putE,lk]
   by_cases x:t=t'<;>simp [x]
end
end Lg
namespace Lg
open Go
set_option linter.unusedVariables false
set_option linter.unusedSimpArgs false
set_option linter.unusedSectionVars false
section
variable {P:Program} {num:FuncId→Option Nat} {fid:Nat→FuncId}
 {w0:World} {A0:Av} {Cb:Nat→Prop} {nt:Nt} {w w':World} {A A':Av} {ι ι':Io} {a:Act} {E E':Env} {H H':List Ob} {own:Nat→List Nat}
theorem wpOp_of {ops:Array Oper} {Q:Exit→Act→World→Prop} {i:Nat} {o:Oper} (h:ops[i]? = some o) {K:Act→World→Prop} (hw:wpO P ops o K Q a w):wpOp P ops Q i K a w:=by
 unfold wpOp;rw [h];exact hw
theorem regO_sound {cl:Cl} (hnum:∀ f g,num f=some g→fid g=f) (hr:ClR P fid cl.r) (hcw:ClW P fid cl.w) {ops:Array Oper} {Q:Exit→Act→World→Prop}:∀ (os:List Oper) (k:Nat) (l:List SOper) {w:World} {A:Av} {ι:Io} {a:Act} {E:Env} {H:List Ob},
  ops.toList.drop k=os→os.mapM (fun o=>compOper P num nt.1 ops false o)=some l→stepsO cl l E H=some (E',H')→St fid w0 A0 Cb nt w A ι a E H no →
  (∀ a' w' A' ι',St fid w0 A0 Cb nt w' A' ι' a' E' H' no→Ext ι ι'→Q .normal a' w')→wpOps P ops Q (List.range' k os.length) a w
 | [],k,l,w,A,ι,a,E,H,hd,hl,he,S,hQ=>by
  simp only [List.mapM_nil] at hl
  injection hl with hl;subst hl
  simp only [stepsO,Option.some.injEq,Prod.mk.injEq] at he
  obtain ⟨rfl,rfl⟩:=he
  simp only [List.length_nil,List.range'_zero,wpOps]
  exact hQ a w A ι S (Ext.refl _)
 | o :: os,k,l,w,A,ι,a,E,H,hd,hl,he,S,hQ=>by
  rw [List.mapM_cons] at hl
  obtain ⟨s,hs,hl⟩:=Option.bind_eq_some_iff.1 hl
  obtain ⟨l',hl',hl⟩:=Option.bind_eq_some_iff.1 hl
  simp only [pure,Option.some.injEq] at hl
  subst hl
  simp only [stepsO] at he
  obtain ⟨⟨E1,H1⟩,he1,he2⟩:=Option.bind_eq_some_iff.1 he
  have hget:ops[k]? = some o:=by
   have:(ops.toList.drop k)[0]? = some o:=by rw [hd];rfl
   rw [List.getElem?_drop] at this
   simpa using this
  have hd':ops.toList.drop (k+1)=os:=by rw [←List.drop_drop,hd];rfl
  rw [List.length_cons,List.range'_succ,wpOps_cons]
  refine wpOp_of hget (stepO_sound hr hcw hs S he1 hnum fun a1 w1 A1 ι1 S1 x1=>?_)
  exact regO_sound hnum hr hcw os (k+1) l' hd' hl' he2 S1 fun a' w' A' ι' S' x'=>hQ a' w' A' ι' S' (x1.trans x')
end
end Lg
namespace Lg
open Go
set_option linter.unusedVariables false
set_option linter.unusedSimpArgs false
set_option linter.unusedSectionVars false
def SameAt (I:List Nat) (H H':List Ob):Prop:=∀ i,i∈I→H[i]? = H'[i]?
theorem SameAt.left {I J:List Nat} {H H':List Ob} (h:SameAt (I++J) H H'):SameAt I H H':=fun i hi=>h i (List.mem_append_left _ hi)
theorem SameAt.right {I J:List Nat} {H H':List Ob} (h:SameAt (I++J) H H'):SameAt J H H':=fun i hi=>h i (List.mem_append_right _ hi)
mutual
theorem rof_congr:∀ (d:D) (H H':List Ob),SameAt (idsD d) H H'→(rof false d H=none∧rof false d H'=none)∨∃ d',rof false d H=some (d',H)∧rof false d H'=some (d',H')
 | .rf id sz off len,H,H',h=>by
  have e:=h id (by simp [idsD])
  simp only [rof,e]
  cases hh:H'[id]? with
  | none=>exact .inl ⟨rfl,rfl⟩
  | some o =>
   cases o with
   | ow wr sz' ds =>
    by_cases c:(off=0∨sz=sz')∧off+len≤ds.length
    ·right;exact ⟨.sl sz' ((ds.drop off).take len),by simp only [if_pos c];rfl,by simp only [if_pos c];rfl⟩
    ·left;simp only [if_neg c];exact ⟨trivial,trivial⟩
   | _=>exact .inl ⟨rfl,rfl⟩
 | .agg ds,H,H',h=>by
  rcases rofs_congr ds H H' h with ⟨e1,e2⟩ | ⟨ds',e1,e2⟩
  ·left;simp [rof,e1,e2]
  ·right;exact ⟨.agg ds',by simp [rof,e1],by simp [rof,e2]⟩
 | .tup ds,H,H',h=>by
  rcases rofs_congr ds H H' h with ⟨e1,e2⟩ | ⟨ds',e1,e2⟩
  ·left;simp [rof,e1,e2]
  ·right;exact ⟨.tup ds',by simp [rof,e1],by simp [rof,e2]⟩
 | .fn f ds,H,H',h=>by
  rcases rofs_congr ds H H' h with ⟨e1,e2⟩ | ⟨ds',e1,e2⟩
  ·left;simp [rof,e1,e2]
  ·right;exact ⟨.fn f ds',by simp [rof,e1],by simp [rof,e2]⟩
 | .osl wr sz ds,H,H',h=> .inr ⟨.sl sz ds,by simp [rof],by simp [rof]⟩
 | .pt ..,H,H',h=> .inl ⟨by simp [rof],by simp [rof]⟩
 | .mp ..,H,H',h=> .inl ⟨by simp [rof],by simp [rof]⟩
 | .obx _,H,H',h=> .inl ⟨by simp [rof],by simp [rof]⟩
 | .omp ..,H,H',h=> .inl ⟨by simp [rof],by simp [rof]⟩
 | .sc v,H,H',h=> .inr ⟨.sc v,by simp [rof],by simp [rof]⟩
 | .sl a b,H,H',h=> .inr ⟨.sl a b,by simp [rof],by simp [rof]⟩
 | .ep a,H,H',h=> .inr ⟨.ep a,by simp [rof],by simp [rof]⟩
 | .nl,H,H',h=> .inr ⟨.nl,by simp [rof],by simp [rof]⟩
 | .sn,H,H',h=> .inr ⟨.sn,by simp [rof],by simp [rof]⟩
 | .uk,H,H',h=> .inr ⟨.uk,by simp [rof],by simp [rof]⟩
 | .un,H,H',h=> .inr ⟨.un,by simp [rof],by simp [rof]⟩
theorem rofs_congr:∀ (ds:List D) (H H':List Ob),SameAt (idsDs ds) H H'→(rofs false ds H=none∧rofs false ds H'=none)∨∃ ds',rofs false ds H=some (ds',H)∧rofs false ds H'=some (ds',H')
 | [],H,H',h=> .inr ⟨[],rfl,rfl⟩
 | d :: ds,H,H',h=>by
  simp only [idsDs] at h
  rcases rof_congr d H H' h.left with ⟨e1,e2⟩ | ⟨d',e1,e2⟩
  ·left;simp [rofs,e1,e2]
  ·rcases rofs_congr ds H H' h.right with ⟨f1,f2⟩ | ⟨ds',f1,f2⟩
   ·left;simp [rofs,e1,e2,f1,f2]
   ·right;exact ⟨d' :: ds',by simp [rofs,e1,f1],by simp [rofs,e2,f2]⟩
end
theorem callQ_congr {fz:Bool} {m:List D→Option (D×List D)} {as:List D} {H H':List Ob} (h:SameAt (idsDs as) H H'):callQ fz m as H=callQ fz m as H':=by
 unfold callQ
 cases fz with
 | true=>rfl
 | false =>
  simp only [Bool.false_eq_true,if_false]
  rcases rofs_congr as H H' h with ⟨e1,e2⟩ | ⟨ds',e1,e2⟩<;>rw [e1,e2]<;>rfl
theorem clOf_congr {Γ:Nat→Option Sem1} {n f:Nat} {as:List D} {H H':List Ob} (h:SameAt (idsDs as) H H'):(clOf Γ n).r f as H=(clOf Γ n).r f as H':=by
 cases n<;>simp only [clOf]<;>split<;>first | exact callQ_congr h | rfl
theorem cellsAt_congr {d:D} {H H':List Ob} (h:SameAt (idsD d) H H'):cellsAt H d=cellsAt H' d:=by
 cases d<;>simp only [cellsAt]
 rename_i id sz e off
 rw [h id (by simp [idsD])]
theorem slD_congr {d:D} {H H':List Ob} (h:SameAt (idsD d) H H'):slD H d=slD H' d:=by
 cases d<;>simp only [slD]
 rename_i id sz off len
 rw [h id (by simp [idsD])]
theorem appendY_congr {d:D} {sz:Nat} {H H':List Ob} (h:SameAt (idsD d) H H'):appendY H sz d=appendY H' sz d:=by
 unfold appendY
 split
 ·rfl
 ·rw [slD_congr h]
theorem storeD_congr {d v:D} {n:Nat} {H H':List Ob} (h:SameAt (idsD d) H H'):storeD H n v d=storeD H' n v d:=by
 cases d<;>simp only [storeD]
 rename_i id sz e off
 rw [h id (by simp [idsD])]
theorem appendD_congr {d:D} {sz by_:Nat} {ys:List D} {H H':List Ob} (h:SameAt (idsD d) H H'):appendD H sz by_ ys d=appendD H' sz by_ ys d:=by
 cases d<;>simp only [appendD]
 rename_i id sz off len
 rw [h id (by simp [idsD])]
theorem copyD_congr {d:D} {sz:Nat} {ys:List D} {H H':List Ob} (h:SameAt (idsD d) H H'):copyD H sz ys d=copyD H' sz ys d:=by
 cases d<;>simp only [copyD]
 rename_i id sz off len
 rw [h id (by simp [idsD])]
def EnvAt (I:List Nat) (E E':Env):Prop:=∀ t,t∈I→lk E t=lk E' t
theorem EnvAt.left {I J:List Nat} {E E':Env} (h:EnvAt (I++J) E E'):EnvAt I E E':=fun i hi=>h i (List.mem_append_left _ hi)
theorem EnvAt.right {I J:List Nat} {E E':Env} (h:EnvAt (I++J) E E'):EnvAt J E E':=fun i hi=>h i (List.mem_append_right _ hi)
section
variable {E E':Env} {H H':List Ob}
theorem ov_congr {x:SOpd} (h:EnvAt (rdO x) E E'):ov E x=ov E' x:=by
 cases x with
 | t n=>exact h n (by simp [rdO])
 | k d=>rfl
theorem ovs_congr {xs:List SOpd} (h:EnvAt (rdOs xs) E E'):ovs E xs=ovs E' xs:=by
 induction xs with
 | nil=>rfl
 | cons x xs ih =>
  simp only [rdOs,List.flatMap_cons] at h
  simp only [ovs,List.map_cons] at ih ⊢
  rw [ov_congr h.left,ih h.right]
theorem ovM_congr {x:Option SOpd} (h:EnvAt (rdM x) E E'):x.map (ov E)=x.map (ov E'):=by
 cases x with
 | none=>rfl
 | some x=>simp [ov_congr (x:=x) h]
theorem ovp_congr {α:Type} {ps:List α} {f:α→SOpd} (h:EnvAt (rdOs (ps.map f)) E E'):∀ p,p∈ps→ov E (f p)=ov E' (f p):=by
 induction ps with
 | nil=>intro p hp;cases hp
 | cons q ps ih =>
  simp only [rdOs,List.map_cons,List.flatMap_cons] at h
  intro p hp
  rcases List.mem_cons.1 hp with e | e
  ·subst e;exact ov_congr h.left
  ·exact ih h.right p e
theorem frz1_congr {cs:List D} {H H':List Ob} (h:SameAt (idsDs cs) H H'):frz1 cs H=frz1 cs H':=by
 unfold frz1
 split
 ·rfl
 ·split
  ·rename_i id ids e
   rw [h id (by rw [e];simp)]
   have e2:(rofs false cs H).map (·.1)=(rofs false cs H').map (·.1):=by
    rcases rofs_congr cs H H' h with ⟨a,b⟩ | ⟨ds',a,b⟩
    ·rw [a,b]
    ·rw [a,b];rfl
   split
   case isFalse=>rfl
   split
   ·rename_i wr sz ds _
    have:∀ (o:Option (List D×List Ob)),(o.map fun r=>(r.1,some (id,Ob.ow false sz ds)))=(o.map (·.1)).map fun x=>(x,some (id,Ob.ow false sz ds)):=by intro o;cases o<;>rfl
    rw [this,this,e2]
   ·rfl
  ·rfl
theorem clrD_congr {d z:D} {H H':List Ob} (h:SameAt (idsD d) H H'):clrD H z d=clrD H' z d:=by
 cases d<;>simp only [clrD]
 rename_i id sz off len
 rw [h id (by simp [idsD])]
def CongrR (r:Nat→List D→List Ob→Option D):Prop:=∀ f as H H',SameAt (idsDs as) H H'→r f as H=r f as H'
theorem accX_congr {op:SOp} (h:EnvAt (rdX op) E E'):accX E op=accX E' op:=by
 cases op<;>simp only [rdX] at h<;>simp only [accX]
 case load ag n x=>rw [ov_congr h]
 case store n x v=>rw [ov_congr h.left]
 case b2s x=>rw [ov_congr h]
 case cvb x=>rw [ov_congr h]
 case call q f xs=>rw [ovs_congr h]
 case callr f xs=>rw [ovs_congr h]
 case bsl own sz len z ps =>
  have:=ovp_congr h
  have e2:(ps.map fun p=>(p.1,ov E p.2))=ps.map fun p=>(p.1,ov E' p.2):=List.map_congr_left fun p hp=>by rw [this p hp]
  rw [e2]
 case callv q f xs=>rw [ov_congr h.left,ovs_congr h.right]
 case append sz by_ x y=>rw [ov_congr h.left,ov_congr h.right]
 case copy sz x y=>rw [ov_congr h.left,ov_congr h.right]
 case clr z x=>rw [ov_congr h]
 case mup ag ks m k v=>rw [ov_congr h.left]
 case lkp ok ag ks z m k=>rw [ov_congr h.left]
theorem idsDs_app (a b:List D):idsDs (a++b)=idsDs a++idsDs b:=by
 induction a with
 | nil=>rfl
 | cons d ds ih=>simp only [List.cons_append,idsDs,ih,List.append_assoc]
theorem evX_congr {r:Nat→List D→List Ob→Option D} (hr:CongrR r) {op:SOp} (h:EnvAt (rdX op) E E') (k:SameAt (accX E op) H H'):evX r E H op=evX r E' H' op:=by
 cases op<;>simp only [rdX] at h<;>simp only [evX]
 case mv x=>rw [ov_congr h]
 case pick c a b=>rw [ov_congr h.left,ov_congr h.right.left,ov_congr h.right.right]
 case box n x=>rw [ov_congr h]
 case build z ps =>
  have:=ovp_congr h
  have e1:(ps.map fun p=>ov E p.2.2)=ps.map fun p=>ov E' p.2.2:=List.map_congr_left fun p hp=>this p hp
  have e2:(ps.map fun p=>(p.1,p.2.1,ov E p.2.2))=ps.map fun p=>(p.1,p.2.1,ov E' p.2.2):=List.map_congr_left fun p hp=>by rw [this p hp]
  rw [e1,e2]
 case bsl own sz len z ps =>
  have:=ovp_congr h
  have e1:(ps.map fun p=>ov E p.2)=ps.map fun p=>ov E' p.2:=List.map_congr_left fun p hp=>this p hp
  have e2:(ps.map fun p=>(p.1,ov E p.2))=ps.map fun p=>(p.1,ov E' p.2):=List.map_congr_left fun p hp=>by rw [this p hp]
  rw [e1,e2]
  simp only [accX,e2] at k
  cases hf:fillD sz (List.replicate len z).flatten (ps.map fun p=>(p.1,ov E' p.2)) with
  | none=>rfl
  | some cs =>
   rw [hf] at k
   simp only [Option.bind_some]
   rw [frz1_congr k]
 case callr f xs =>
  simp only [accX] at k
  rw [hr f _ H H' k,ovs_congr h]
 case load ag n x =>
  simp only [accX] at k
  rw [cellsAt_congr k,ov_congr h]
 case store n x v =>
  simp only [accX] at k
  rw [storeD_congr k,ov_congr h.left,ov_congr h.right]
 case nilc x=>rw [ov_congr h]
 case bin op x y=>rw [ov_congr h.left,ov_congr h.right]
 case binb op x y=>rw [ov_congr h.left,ov_congr h.right]
 case eqa neg ks x y=>rw [ov_congr h.left,ov_congr h.right]
 case eqn neg x=>rw [ov_congr h]
 case una op x=>rw [ov_congr h]
 case cvi kk x=>rw [ov_congr h]
 case cvs x=>rw [ov_congr h]
 case s2b x=>rw [ov_congr h]
 case b2s x =>
  simp only [accX] at k
  rw [slD_congr k,ov_congr h]
 case cvb x =>
  simp only [accX] at k
  rw [ov_congr h] at k ⊢
  split
  ·rename_i id sz off len e
   rw [e] at k
   rw [k id (by simp [idsD])]
  ·rfl
 case mkf f caps=>rw [ovs_congr h]
 case mksl sz by_ z l=>rw [ov_congr h]
 case slc sz x lo hi=>rw [ov_congr h.left,ovM_congr h.right.left,ovM_congr h.right.right]
 case sls x lo hi=>rw [ov_congr h.left,ovM_congr h.right.left,ovM_congr h.right.right]
 case slz x=>rw [ov_congr h]
 case fad off x=>rw [ov_congr h]
 case fld ag off n x=>rw [ov_congr h]
 case ixs sz x i=>rw [ov_congr h.left,ov_congr h.right]
 case ixa len sz x i=>rw [ov_congr h.left,ov_congr h.right]
 case ixt x i=>rw [ov_congr h.left,ov_congr h.right]
 case ixg ag len n x i=>rw [ov_congr h.left,ov_congr h.right]
 case ext x i=>rw [ov_congr h]
 case call q f xs =>
  simp only [accX] at k
  cases q with
  | false=>rfl
  | true=>simp only [evX];rw [hr f _ H H' k,ovs_congr h]
 case callv q f xs =>
  simp only [accX] at k
  cases q with
  | false=>rfl
  | true =>
   simp only [evX]
   rw [ov_congr h.left,ovs_congr h.right] at k ⊢
   split
   ·rename_i g caps e
    rw [e] at k
    simp only [idsD] at k
    rw [hr g _ H H' (fun i hi=>k i (by rw [idsDs_app] at hi;rcases List.mem_append.1 hi with x | x;exact List.mem_append_right _ x;exact List.mem_append_left _ x))]
   ·rfl
 case len x=>rw [ov_congr h]
 case lens x=>rw [ov_congr h]
 case append sz by_ x y =>
  simp only [accX] at k
  rw [appendY_congr k.right,ov_congr h.right]
  congr 1
  funext ys
  rw [appendD_congr k.left,ov_congr h.left]
 case copy sz x y =>
  simp only [accX] at k
  rw [appendY_congr k.right,ov_congr h.right]
  congr 1
  funext ys
  rw [copyD_congr k.left,ov_congr h.left]
 case mx xs=>rw [ovs_congr h]
 case mn xs=>rw [ovs_congr h]
 case capn x=>rw [ov_congr h]
 case appz sz by_ z x n=>rw [ov_congr h.left,ov_congr h.right]
 case clr z x =>
  simp only [accX] at k
  rw [clrD_congr k,ov_congr h]
 case mup ag ks m kk v =>
  simp only [accX] at k
  rw [ov_congr h.left] at k ⊢
  rw [ov_congr h.right.left,ov_congr h.right.right]
  split
  ·rename_i id e
   rw [e] at k
   rw [k id (by simp [idsD])]
  ·rfl
 case lkp ok ag ks z m kk =>
  simp only [accX] at k
  rw [ov_congr h.left] at k ⊢
  rw [ov_congr h.right]
  split
  ·rename_i id e
   rw [e] at k
   rw [k id (by simp [idsD])]
  ·rfl
theorem wanted_congr {g:Option (Nat×Bool)} (h:EnvAt (match g with | some (t,_)=>[t] | none=>[]) E E'):wanted E g=wanted E' g:=by
 cases g with
 | none=>rfl
 | some p=>obtain ⟨t,b⟩:=p;simp only [wanted];rw [h t (by simp)]
theorem eats_congr {op:SOp} (h:EnvAt (rdX op) E E'):eats E op=eats E' op:=by
 cases op<;>simp only [rdX] at h<;>simp only [eats]
 rename_i sz by_ x y
 cases x with
 | t n=>simp only [eats];rw [h n (by simp [rdO])]
 | k d=>rfl
theorem accS_congr {s:SOper} (h:EnvAt (rdS s) E E'):accS E s=accS E' s:=by
 unfold accS
 unfold rdS at h
 rw [wanted_congr h.right,accX_congr h.left]
theorem stepX_congr {cl:Cl} (hr:CongrR cl.r) {s:SOper} (h:EnvAt (rdS s) E E') (k:SameAt (accS E s) H H'):stepX cl s E H=stepX cl s E' H':=by
 unfold stepX
 have h':=h
 unfold rdS at h'
 rw [wanted_congr h'.right]
 split
 ·rename_i hw
  have k':SameAt (accX E s.op) H H':=by
   unfold accS at k
   rw [wanted_congr h'.right,hw] at k
   exact k
  rw [evX_congr hr h'.left k',eats_congr h'.left]
 ·rfl
 ·rfl
theorem storeD_id {H:List Ob} {n:Nat} {v x d:D} {i:Nat} {o:Ob} (h:storeD H n v x=some (d,some (i,o))):i∈idsD x:=by
 unfold storeD at h
 repeat' split at h
 all_goals try cases h
 all_goals simp only [Option.map_eq_some_iff,Option.bind_eq_some_iff,Prod.mk.injEq,Option.some.injEq] at h
 all_goals first
  | (obtain ⟨_,_,_,e,_⟩:=h;rw [←e];simp [idsD];done)
  | (obtain ⟨_,_,_,_,_,e,_⟩:=h;rw [←e];simp [idsD];done)
theorem appendD_id {H:List Ob} {sz by_:Nat} {ys:List D} {x d:D} {i:Nat} {o:Ob} (h:appendD H sz by_ ys x=some (d,some (i,o))):i∈idsD x:=by
 unfold appendD at h
 repeat' split at h
 all_goals try cases h
 all_goals simp [idsD]
theorem copyD_id {H:List Ob} {sz:Nat} {ys:List D} {x d:D} {i:Nat} {o:Ob} (h:copyD H sz ys x=some (d,some (i,o))):i∈idsD x:=by
 unfold copyD at h
 repeat' split at h
 all_goals try cases h
 all_goals simp [idsD]
def NU (x:Option (D×Option (Nat×Ob))):Prop:=∀ d u,x=some (d,u)→u=none
theorem NU.none:NU none:=by intro d u h;cases h
theorem NU.some {d:D}:NU (some (d, .none)):=by intro d' u e;injection e with e;simp only [Prod.mk.injEq] at e;exact e.2.symm
theorem NU.bind {α:Type} {o:Option α} {f:α→Option (D×Option (Nat×Ob))} (h:∀ a,NU (f a)):NU (o.bind f):=by
 intro d u e;obtain ⟨a,_,e⟩:=Option.bind_eq_some_iff.1 e;exact h a d u e
theorem NU.map {α:Type} {o:Option α} {f:α→D×Option (Nat×Ob)} (h:∀ a,(f a).2 = .none):NU (o.map f):=by
 intro d u e;obtain ⟨a,_,e⟩:=Option.map_eq_some_iff.1 e;have:=h a;rw [e] at this;exact this
theorem evX_id {r:Nat→List D→List Ob→Option D} {op:SOp} {d:D} {i:Nat} {o:Ob} (h:evX r E H op=some (d,some (i,o))):i∈accX E op:=by
 cases op<;>simp only [evX] at h
 case store n x v =>
  split at h
  ·exact storeD_id h
  ·cases h
 case append sz by_ x y =>
  obtain ⟨ys,_,h⟩:=Option.bind_eq_some_iff.1 h
  exact List.mem_append_left _ (appendD_id h)
 case copy sz x y =>
  obtain ⟨ys,_,h⟩:=Option.bind_eq_some_iff.1 h
  exact List.mem_append_left _ (copyD_id h)
 case cvb x =>
  simp only [accX]
  split at h
  ·rename_i id sz off len e
   split at h
   ·split at h
    ·simp only [Option.some.injEq,Prod.mk.injEq] at h;rw [e];simp [idsD,h.2.1]
    ·cases h
   ·cases h
  ·cases h
 case bsl own sz len z ps =>
  simp only [accX]
  obtain ⟨cs,hf,h⟩:=Option.bind_eq_some_iff.1 h
  obtain ⟨⟨cs',u⟩,hfz,h⟩:=Option.bind_eq_some_iff.1 h
  split at h
  ·simp only [Option.some.injEq,Prod.mk.injEq] at h
   rw [hf]
   simp only
   obtain ⟨_,rfl⟩:=h
   unfold frz1 at hfz
   split at hfz
   ·cases hfz
   ·split at hfz
    ·rename_i id ids e
     split at hfz
     case isFalse=>cases hfz
     split at hfz
     ·obtain ⟨r',_,e3⟩:=Option.map_eq_some_iff.1 hfz
      simp only [Prod.mk.injEq,Option.some.injEq] at e3
      rw [e,←e3.2.1];simp
     ·cases hfz
    ·cases hfz
  ·cases h
 case clr z x =>
  simp only [accX]
  unfold clrD at h
  split at h
  ·cases h
  ·rename_i id sz off len e
   split at h
   ·split at h
    ·simp only [Option.some.injEq,Prod.mk.injEq] at h;rw [e];simp [idsD,h.2.1]
    ·cases h
   ·cases h
  ·cases h
 case mup ag ks m k v =>
  simp only [accX]
  split at h
  ·rename_i id e
   split at h
   ·split at h
    ·obtain ⟨r,_,h⟩:=Option.map_eq_some_iff.1 h
     simp only [Option.some.injEq,Prod.mk.injEq] at h;rw [e];simp [idsD,h.2.1]
    ·cases h
   ·cases h
  ·cases h
 case call q f xs =>
  exfalso
  cases q<;>simp only [evX] at h
  ·cases h
  ·exact absurd (NU.map (fun _=>rfl):NU _) (fun hh=>by have:=hh _ _ h;cases this)
 case callv q f xs =>
  exfalso
  cases q<;>simp only [evX] at h
  ·cases h
  ·split at h
   ·exact absurd (NU.map (fun _=>rfl):NU _) (fun hh=>by have:=hh _ _ h;cases this)
   ·cases h
 all_goals exfalso
 all_goals refine absurd (?_:NU _) (fun hh=>by have:=hh _ _ h;cases this)
 all_goals repeat' first
  | exact NU.none
  | exact NU.some
  | exact NU.map fun _=>rfl
  | refine NU.bind fun _=>?_
  | split
theorem stepX_id {cl:Cl} {s:SOper} {d:D} {eat:Option Nat} {i:Nat} {o:Ob} (h:stepX cl s E H=some (d,eat,some (i,o))):i∈accS E s:=by
 unfold stepX at h
 unfold accS
 split at h
 ·rename_i hw
  obtain ⟨⟨d1,u1⟩,h1,h2⟩:=Option.map_eq_some_iff.1 h
  simp only [Prod.mk.injEq] at h2
  obtain ⟨rfl,rfl,rfl⟩:=h2
  rw [hw]
  exact evX_id h1
 ·simp at h
 ·cases h
theorem stepX_eats {cl:Cl} {s:SOper} {d:D} {eat:Option Nat} {u:Option (Nat×Ob)} (h:stepX cl s E H=some (d,eat,u)):∀ t,eat=some t→t∈wrS s:=by
 unfold stepX at h
 split at h
 ·obtain ⟨⟨d1,u1⟩,h1,h2⟩:=Option.map_eq_some_iff.1 h
  simp only [Prod.mk.injEq] at h2
  obtain ⟨rfl,rfl,rfl⟩:=h2
  intro t ht
  unfold eats at ht
  split at ht
  ·rename_i hop
   split at ht
   ·injection ht with ht;subst ht
    unfold wrS;rw [hop];simp
   ·cases ht
  ·cases ht
 ·simp only [Option.some.injEq,Prod.mk.injEq] at h
  intro t ht;rw [←h.2.1] at ht;cases ht
 ·cases h
theorem eqSc_eq {a b:Value} (h:eqSc a b=true):a=b:=by
 unfold eqSc at h
 split at h
 ·simp at h;rw [h]
 ·simp at h;rw [h.1,h.2]
 ·rename_i a b
  obtain ⟨⟨a⟩⟩:=a;obtain ⟨⟨b⟩⟩:=b
  simp at h;rw [h]
 ·cases h
mutual
theorem eqD_eq:∀ {a b:D},eqD a b=true→a=b:=by
 intro a b h
 cases a<;>cases b<;>simp only [eqD,Bool.and_eq_true,decide_eq_true_eq,Bool.false_eq_true] at h
 case sc.sc=>rw [eqSc_eq h]
 case agg.agg=>rw [eqDs_eq h]
 case tup.tup=>rw [eqDs_eq h]
 case sl.sl=>rw [h.1,eqDs_eq h.2]
 case osl.osl=>rw [h.1,h.2.1,eqDs_eq h.2.2]
 case obx.obx=>rw [eqDs_eq h]
 case ep.ep=>rw [eqDs_eq h]
 case rf.rf=>rw [h.1,h.2.1,h.2.2.1,h.2.2.2]
 case pt.pt=>rw [h.1,h.2.1,h.2.2.1,h.2.2.2]
 case fn.fn=>rw [h.1,eqDs_eq h.2]
 case mp.mp=>rw [h]
 all_goals rfl
theorem eqDs_eq:∀ {a b:List D},eqDs a b=true→a=b:=by
 intro a b h
 cases a<;>cases b<;>simp only [eqDs,Bool.and_eq_true,Bool.false_eq_true] at h
 ·rfl
 ·rw [eqD_eq h.1,eqDs_eq h.2]
end
theorem kept_same {H H':List Ob} {i:Nat} (h:i∈kept H H'):H'[i]? = H[i]?:=by
 unfold kept at h
 rw [List.mem_filter] at h
 have:=h.2
 unfold sameBx at this
 split at this
 ·rename_i a b e1 e2
  rw [e1,e2,eqDs_eq this]
 ·cases this
theorem stepO_call_congr {cl:Cl} {s:SOper} {E E':Env} {H:List Ob} (hc:isCall s.op=true) (h:EnvAt (rdS s) E E'):(stepO cl s E H=none∧stepO cl s E' H=none)∨∃ d H1,stepO cl s E H=some (putE s.dst d E,H1)∧stepO cl s E' H=some (putE s.dst d E',H1):=by
 have hw:wanted E s.guard=wanted E' s.guard:=wanted_congr h.right
 have he:evCall cl.w E H s.op=evCall cl.w E' H s.op:=by
  have hx:EnvAt (rdX s.op) E E':=h.left
  rcases isCall_cases hc with ⟨f,xs,e⟩ | ⟨f,xs,e⟩
  ·rw [e] at hx ⊢
   simp only [rdX] at hx
   simp only [evCall,ovs_congr hx]
  ·rw [e] at hx ⊢
   simp only [rdX] at hx
   simp only [evCall,ov_congr hx.left,ovs_congr hx.right]
 unfold stepO
 rw [if_pos hc,if_pos hc,←hw,←he]
 cases hh:wanted E s.guard with
 | none=>exact .inl ⟨rfl,rfl⟩
 | some b =>
  cases b with
  | false=>exact .inr ⟨_,H,rfl,rfl⟩
  | true =>
   cases h2:evCall cl.w E H s.op with
   | none=>exact .inl ⟨rfl,rfl⟩
   | some r=>exact .inr ⟨r.1,r.2,rfl,rfl⟩
end
end Lg
namespace Lg
open Go
set_option linter.unusedVariables false
set_option linter.unusedSimpArgs false
set_option linter.unusedSectionVars false
def Run (cl:Cl):List SOper→List Lo→Env→List Ob→Env→List Ob→Prop
 | [],[],E,H,E',H'=>(∀ t,lk E t=lk E' t)∧H=H'
 | s :: ss,l :: ls,E,H,E',H' =>
   (isCall s.op=false∧∃ r,stepX cl s E H=some r∧l=loX E s r∧Run cl ss ls (putE s.dst r.1 (putE r.2.1 .un E)) (putH r.2.2 H) E' H') ∨
   (isCall s.op=true∧∃ d H1,(∀ t,t∈rdS s→noTree (lk E t)=true)∧stepO cl s E H=some (putE s.dst d E,H1)∧l=([],kept H H1,2)∧Run cl ss ls (putE s.dst d E) H1 E' H')
 | _,_,_,_,_,_=>False
def nocl (x y:Lo):Prop:=noclB x y=true
def apartS (x y:SOper):Prop:=(meets (wrS x) (rdS y++wrS y) || meets (wrS y) (rdS x))=false
theorem apart_iff {xs ys:List Nat}:apart xs ys=true↔∀ x,x∈xs→x∉ys:=by
 simp [apart]
theorem meets_false {xs ys:List Nat} (h:meets xs ys=false):∀ x,x∈xs→x∉ys:=by
 simpa [meets] using h
section
variable {cl:Cl} {E E' E1:Env} {H H':List Ob}
theorem EnvAt.of_eq (h:∀ t,lk E t=lk E1 t) (I:List Nat):EnvAt I E E1:=fun t _=>h t
theorem lk_put2 (s:SOper) (d:D) (e:Option Nat) (E:Env) (t:Nat):lk (putE s.dst d (putE e .un E)) t=if s.dst=some t then d else if e=some t then .un else lk E t:=by
 rw [lk_putE,lk_putE]
theorem loX_congr {s:SOper} {r:D×Option Nat×Option (Nat×Ob)} (h:EnvAt (rdS s) E E1):loX E s r=loX E1 s r:=by
 unfold loX;rw [accS_congr h]
theorem Run.congr (hr:CongrR cl.r):∀ {ss:List SOper} {ls:List Lo} {E E1:Env} {H:List Ob},(∀ t,lk E t=lk E1 t)→Run cl ss ls E H E' H'→Run cl ss ls E1 H E' H'
 | [],[],E,E1,H,h,r=>⟨fun t=>by rw [←h t];exact r.1 t,r.2⟩
 | s :: ss,l :: ls,E,E1,H,h,r=>by
  rcases r with ⟨hc,⟨d,e,u⟩,h1,h2,h4⟩ | ⟨hc,d,H1,h0,h1,h2,h4⟩
  ·refine .inl ⟨hc,(d,e,u),?_,?_,Run.congr hr (fun t=>by rw [lk_put2,lk_put2,h t]) h4⟩
   ·rw [←h1];exact (stepX_congr hr (EnvAt.of_eq h _) (fun i _=>rfl)).symm
   ·rw [h2];exact loX_congr (EnvAt.of_eq h _)
  ·refine .inr ⟨hc,d,H1,fun t ht=>by rw [←h t];exact h0 t ht,?_,h2,Run.congr hr (fun t=>by rw [lk_putE,lk_putE,h t]) h4⟩
   rcases stepO_call_congr (cl:=cl) (H:=H) hc (EnvAt.of_eq h (rdS s)) with ⟨a,b⟩ | ⟨d',H2,a,b⟩
   ·rw [a] at h1;cases h1
   ·rw [a] at h1
    injection h1 with h1
    simp only [Prod.mk.injEq] at h1
    obtain ⟨g1,rfl⟩:=h1
    rw [b]
    have:putE s.dst d' E1=putE s.dst d E1:=by
     cases hd:s.dst with
     | none=>rfl
     | some t =>
      rw [hd] at g1
      simp only [putE,List.cons.injEq,Prod.mk.injEq,true_and,and_true] at g1
      simp [putE,g1]
    rw [this]
 | [],_ :: _,E,E1,H,h,r=>r.elim
 | _ :: _,[],E,E1,H,h,r=>r.elim
theorem putH_get {u:Option (Nat×Ob)} {H:List Ob} {i:Nat} (h:i∉idOf u):(putH u H)[i]? = H[i]?:=by
 cases u with
 | none=>rfl
 | some p =>
  obtain ⟨j,o⟩:=p
  simp only [idOf,List.mem_singleton] at h
  simp only [putH,List.getElem?_set]
  rw [if_neg (fun e=>h e.symm)]
theorem putH_comm {u v:Option (Nat×Ob)} {H:List Ob} (h:∀ i,i∈idOf u→i∉idOf v):putH u (putH v H)=putH v (putH u H):=by
 cases u with
 | none=>rfl
 | some p =>
  cases v with
  | none=>rfl
  | some q =>
   obtain ⟨i,o⟩:=p
   obtain ⟨j,o'⟩:=q
   have:i≠j:=by have:=h i (by simp [idOf]);simpa [idOf] using this
   simp only [putH]
   rw [List.set_comm _ _ this.symm]
theorem env_keep {s:SOper} {d:D} {e:Option Nat} (he:∀ t,e=some t→t∈wrS s) {I:List Nat} (h:∀ t,t∈wrS s→t∉I):EnvAt I E (putE s.dst d (putE e .un E)):=by
 intro t ht
 rw [lk_put2]
 have h1:s.dst≠some t:=fun hd=>h t (by simp [wrS,hd]) ht
 have h2:e≠some t:=fun hd=>h t (he t hd) ht
 rw [if_neg h1,if_neg h2]
theorem lk_swap {x y:SOper} {dx dy:D} {ex ey:Option Nat} (w1:∀ t,t∈wrS x→t∉wrS y) (ex':∀ t,ex=some t→t∈wrS x) (ey':∀ t,ey=some t→t∈wrS y) (t:Nat) :
  lk (putE y.dst dy (putE ey .un (putE x.dst dx (putE ex .un E)))) t=lk (putE x.dst dx (putE ex .un (putE y.dst dy (putE ey .un E)))) t:=by
 rw [lk_put2,lk_put2,lk_put2,lk_put2]
 by_cases c1:y.dst=some t
 ·have c2:x.dst≠some t:=fun h=>w1 t (by simp [wrS,h]) (by simp [wrS,c1])
  have c3:ex≠some t:=fun h=>w1 t (ex' t h) (by simp [wrS,c1])
  rw [if_pos c1,if_neg c2,if_neg c3,if_pos c1]
 ·rw [if_neg c1]
  by_cases c2:ey=some t
  ·have c3:x.dst≠some t:=fun h=>w1 t (by simp [wrS,h]) (ey' t c2)
   have c4:ex≠some t:=fun h=>w1 t (ex' t h) (ey' t c2)
   rw [if_pos c2,if_neg c3,if_neg c4,if_neg c1,if_pos c2]
  ·rw [if_neg c2,if_neg c1,if_neg c2]
theorem inert_of {s:SOper} {r:D×Option Nat×Option (Nat×Ob)} (h:(loX E s r).2.2=1):noTree r.1=true∧r.2.1=none∧r.2.2=none:=by
 unfold loX inertX at h
 simp only at h
 split at h
 ·rename_i hh
  simp only [Bool.and_eq_true,Option.isNone_iff_eq_none] at hh
  exact ⟨hh.1.1,hh.1.2,hh.2⟩
 ·cases h
theorem loX_ne {s:SOper} {r:D×Option Nat×Option (Nat×Ob)}:(loX E s r).2.2≠2:=by
 unfold loX;simp only;split<;>decide
theorem Run.swap (hr:CongrR cl.r) {x y:SOper} {lx ly:Lo} {ss:List SOper} {ls:List Lo} (ha:apartS x y) (hn:nocl lx ly) (r:Run cl (x :: y :: ss) (lx :: ly :: ls) E H E' H'):Run cl (y :: x :: ss) (ly :: lx :: ls) E H E' H':=by
 simp only [apartS,Bool.or_eq_false_iff] at ha
 have a1:=meets_false ha.1
 have a2:=meets_false ha.2
 have w1:∀ t,t∈wrS x→t∉wrS y:=fun t ht hh=>a1 t ht (List.mem_append_right _ hh)
 have wd:∀ {s:SOper} {t:Nat},s.dst=some t→t∈wrS s:=fun h=>by simp [wrS,h]
 unfold nocl noclB at hn
 rcases r with ⟨hcx,⟨dx,ex,ux⟩,h1,h2,r⟩ | ⟨hcx,dx,Hx,h0,h1,h2,r⟩
 ·have ex':=stepX_eats h1
  rcases r with ⟨hcy,⟨dy,ey,uy⟩,h4,h5,h7⟩ | ⟨hcy,dy,Hy,g0,h4,h5,h7⟩
  ·
   have ey':=stepX_eats h4
   rw [if_neg (by rw [h2];exact loX_ne),if_neg (by rw [h5];exact loX_ne)] at hn
   simp only [Bool.and_eq_true,apart_iff] at hn
   obtain ⟨n1,n2⟩:=hn
   have h3:lx.2.1=idOf ux:=by rw [h2];rfl
   have h6:ly.2.1=idOf uy:=by rw [h5];rfl
   have h2':lx.1=accS E x:=by rw [h2];rfl
   have h5':ly.1=accS (putE x.dst dx (putE ex .un E)) y:=by rw [h5];rfl
   have kE:EnvAt (rdS y) E (putE x.dst dx (putE ex .un E)):=env_keep ex' (fun t ht=>fun hh=>a1 t ht (List.mem_append_left _ hh))
   have kacc:accS E y=accS (putE x.dst dx (putE ex .un E)) y:=accS_congr kE
   have kH:SameAt (accS E y) H (putH ux H):=by
    intro i hi
    rw [putH_get]
    intro hh
    rw [←h3] at hh
    rw [kacc,←h5'] at hi
    exact n1 i hh hi
   have sy:stepX cl y E H=some (dy,ey,uy):=by rw [←h4];exact stepX_congr hr kE kH
   have kE2:EnvAt (rdS x) E (putE y.dst dy (putE ey .un E)):=env_keep ey' a2
   have kacc2:accS E x=accS (putE y.dst dy (putE ey .un E)) x:=accS_congr kE2
   have kH2:SameAt (accS E x) H (putH uy H):=by
    intro i hi
    rw [putH_get]
    intro hh
    rw [←h6] at hh
    rw [←h2'] at hi
    exact n2 i hh hi
   have sx:stepX cl x (putE y.dst dy (putE ey .un E)) (putH uy H)=some (dx,ex,ux):=by rw [←h1];exact (stepX_congr hr kE2 kH2).symm
   have hids:∀ i,i∈idOf uy→i∉idOf ux:=by
    intro i hi hx
    rw [←h3] at hx
    refine n1 i hx ?_
    rw [h5']
    cases uy with
    | none=>simp [idOf] at hi
    | some p =>
     obtain ⟨j,o⟩:=p
     simp only [idOf,List.mem_singleton] at hi
     subst hi
     exact stepX_id h4
   refine .inl ⟨hcy,(dy,ey,uy),sy,by rw [h5];exact (loX_congr kE).symm, .inl ⟨hcx,(dx,ex,ux),sx,by rw [h2];exact loX_congr kE2,?_⟩⟩
   simp only
   rw [putH_comm (fun i hi hx=>hids i hx hi)]
   exact Run.congr hr (fun t=>lk_swap w1 ex' ey' t) h7
  ·
   rw [if_neg (by rw [h2];exact loX_ne),if_pos (by rw [h5])] at hn
   simp only [Bool.and_eq_true,decide_eq_true_eq,List.all_eq_true] at hn
   obtain ⟨n1,n2⟩:=hn
   rw [h2] at n1
   obtain ⟨i1,i2,i3⟩:=inert_of n1
   simp only at i1 i2 i3
   subst i2;subst i3
   have kE:EnvAt (rdS y) E (putE x.dst dx (putE none .un E)):=env_keep ex' (fun t ht=>fun hh=>a1 t ht (List.mem_append_left _ hh))
   simp only [putH] at h4 h5 h7
   rcases stepO_call_congr (cl:=cl) (H:=H) hcy kE with ⟨a,b⟩ | ⟨d',H2,a,b⟩
   ·rw [b] at h4;cases h4
   ·rw [b] at h4
    injection h4 with h4
    simp only [Prod.mk.injEq] at h4
    obtain ⟨g1,rfl⟩:=h4
    have hdd:∀ Z:Env,putE y.dst d' Z=putE y.dst dy Z:=by
     intro Z
     cases hd:y.dst with
     | none=>rfl
     | some t =>
      rw [hd] at g1
      simp only [putE,List.cons.injEq,Prod.mk.injEq,true_and,and_true] at g1
      simp [putE,g1]
    rw [hdd] at a
    have kE2:EnvAt (rdS x) E (putE y.dst dy E):=env_keep (e:=none) (fun t h=>by cases h) a2
    have kH2:SameAt (accS E x) H H2:=by
     intro i hi
     have:=n2 i (by rw [h2];exact hi)
     rw [h5] at this
     exact (kept_same (by simpa using this)).symm
    have sx:stepX cl x (putE y.dst dy E) H2=some (dx,none,none):=by rw [←h1];exact (stepX_congr hr kE2 kH2).symm
    refine .inr ⟨hcy,dy,H2,fun t ht=>by rw [kE t ht];exact g0 t ht,a,h5, .inl ⟨hcx,(dx,none,none),sx,by rw [h2];exact loX_congr kE2,?_⟩⟩
    exact Run.congr hr (fun t=>lk_swap (ey:=none) w1 ex' (fun t h=>by cases h) t) h7
 ·rcases r with ⟨hcy,⟨dy,ey,uy⟩,h4,h5,h7⟩ | ⟨hcy,dy,Hy,g0,h4,h5,h7⟩
  ·
   have ey':=stepX_eats h4
   rw [if_pos (by rw [h2])] at hn
   simp only [Bool.and_eq_true,decide_eq_true_eq,List.all_eq_true] at hn
   obtain ⟨n1,n2⟩:=hn
   rw [h5] at n1
   obtain ⟨i1,i2,i3⟩:=inert_of n1
   simp only at i1 i2 i3
   subst i2;subst i3
   have kE:EnvAt (rdS y) E (putE x.dst dx E):=env_keep (e:=none) (fun t h=>by cases h) (fun t ht=>fun hh=>a1 t ht (List.mem_append_left _ hh))
   have kacc:accS E y=accS (putE x.dst dx E) y:=accS_congr kE
   have kH:SameAt (accS E y) H Hx:=by
    intro i hi
    have:=n2 i (by rw [h5];rw [kacc] at hi;exact hi)
    rw [h2] at this
    exact (kept_same (by simpa using this)).symm
   have sy:stepX cl y E H=some (dy,none,none):=by rw [←h4];exact stepX_congr hr kE kH
   have kE2:EnvAt (rdS x) E (putE y.dst dy E):=env_keep (e:=none) (fun t h=>by cases h) a2
   rcases stepO_call_congr (cl:=cl) (H:=H) hcx kE2 with ⟨a,b⟩ | ⟨d',H2,a,b⟩
   ·rw [a] at h1;cases h1
   ·rw [a] at h1
    injection h1 with h1
    simp only [Prod.mk.injEq] at h1
    obtain ⟨g1,rfl⟩:=h1
    have hdd:∀ Z:Env,putE x.dst d' Z=putE x.dst dx Z:=by
     intro Z
     cases hd:x.dst with
     | none=>rfl
     | some t =>
      rw [hd] at g1
      simp only [putE,List.cons.injEq,Prod.mk.injEq,true_and,and_true] at g1
      simp [putE,g1]
    rw [hdd] at b
    refine .inl ⟨hcy,(dy,none,none),sy,by rw [h5];exact (loX_congr kE).symm, .inr ⟨hcx,dx,H2,fun t ht=>?_,b,h2,?_⟩⟩
    ·show noTree (lk (putE y.dst dy E) t)=true
     rw [←kE2 t ht];exact h0 t ht
    ·exact Run.congr hr (fun t=>lk_swap (ex:=none) w1 (fun t h=>by cases h) ey' t) h7
  ·
   exfalso
   rw [if_pos (by rw [h2])] at hn
   rw [h5] at hn
   simp at hn
theorem Run.bubble (hr:CongrR cl.r) {x:SOper} {lx:Lo} {post:List SOper} {lpost:List Lo}:∀ (pre:List (SOper×Lo)) {E:Env} {H:List Ob},(∀ p,p∈pre→apartS p.1 x∧nocl p.2 lx) →
  Run cl (pre.map (·.1)++x :: post) (pre.map (·.2)++lx :: lpost) E H E' H'→Run cl (x :: (pre.map (·.1)++post)) (lx :: (pre.map (·.2)++lpost)) E H E' H'
 | [],E,H,_,r=>r
 | p :: pre,E,H,h,r=>by
  simp only [List.map_cons,List.cons_append] at r ⊢
  obtain ⟨ha,hn⟩:=h p (by simp)
  refine Run.swap hr ha hn ?_
  rcases r with ⟨hc,r,h1,h2,h4⟩ | ⟨hc,d,H1,h0,h1,h2,h4⟩
  ·exact .inl ⟨hc,r,h1,h2,Run.bubble hr pre (fun q hq=>h q (by simp [hq])) h4⟩
  ·exact .inr ⟨hc,d,H1,h0,h1,h2,Run.bubble hr pre (fun q hq=>h q (by simp [hq])) h4⟩
end
end Lg
namespace Lg
open Go
set_option linter.unusedVariables false
set_option linter.unusedSimpArgs false
set_option linter.unusedSectionVars false
def msk (acc:Array Nat) (o:Oper):Nat:=o.after.foldl (fun s e=>if Region.binds .any e then s ||| 2 ^ e.on ||| acc.getD e.on 0 else s) 0
def bef (os:List Oper) (acc:Array Nat):Array Nat:=os.foldl (fun acc o=>acc.push (msk acc o)) acc
theorem before_eq (ops:Array Oper):Region.before ops=bef ops.toList #[]:=by
 unfold Region.before bef msk
 rw [←Array.foldl_toList]
theorem bef_old (os:List Oper) (acc:Array Nat) (j:Nat) (h:j<acc.size):(bef os acc).getD j 0=acc.getD j 0:=by
 induction os generalizing acc with
 | nil=>rfl
 | cons o os ih =>
  simp only [bef,List.foldl_cons] at ih ⊢
  rw [ih _ (by simp;omega)]
  simp [Array.getElem?_push,Nat.ne_of_lt h]
theorem msk_bit (acc:Array Nat) (o:Oper) (k:Nat) (h:(msk acc o).testBit k=true):∃ e,e∈o.after∧Region.binds .any e=true∧(k=e.on∨(acc.getD e.on 0).testBit k=true):=by
 unfold msk at h
 rw [←Array.foldl_toList] at h
 have key:∀ (l:List Edge) (s:Nat),(∀ e,e∈l→e∈o.after)→(l.foldl (fun s e=>if Region.binds .any e then s ||| 2 ^ e.on ||| acc.getD e.on 0 else s) s).testBit k=true →
   s.testBit k=true∨∃ e,e∈o.after∧Region.binds .any e=true∧(k=e.on∨(acc.getD e.on 0).testBit k=true):=by
  intro l
  induction l with
  | nil=>intro s _ h;exact .inl h
  | cons e l ih =>
   intro s hm h
   simp only [List.foldl_cons] at h
   rcases ih _ (fun x hx=>hm x (by simp [hx])) h with h | h
   ·split at h
    ·rename_i hb
     simp only [Nat.testBit_or,Bool.or_eq_true] at h
     rcases h with (h | h) | h
     ·exact .inl h
     ·rw [Nat.testBit_two_pow] at h
      exact .inr ⟨e,hm e (by simp),hb, .inl (by simpa [eq_comm] using h)⟩
     ·exact .inr ⟨e,hm e (by simp),hb, .inr h⟩
    ·exact .inl h
   ·exact .inr h
 rcases key o.after.toList 0 (fun e he=>by simpa using he) h with h | h
 ·simp at h
 ·exact h
theorem bef_bit:∀ (os:List Oper) (acc:Array Nat) (j k:Nat),acc.size≤j→((bef os acc).getD j 0).testBit k=true →
  ∃ o e,os[j-acc.size]? = some o∧e∈o.after∧Region.binds .any e=true∧(k=e.on∨(e.on<j∧((bef os acc).getD e.on 0).testBit k=true))
 | [],acc,j,k,hj,h=>by
  simp only [bef,List.foldl_nil] at h
  simp [Array.getElem?_eq_none hj] at h
 | o :: os,acc,j,k,hj,h=>by
  have hunf:bef (o :: os) acc=bef os (acc.push (msk acc o)):=rfl
  rcases Nat.lt_or_ge acc.size j with hl | hl
  ·rw [hunf] at h
   obtain ⟨o',e,h1,h2,h3,h4⟩:=bef_bit os (acc.push (msk acc o)) j k (by simp;omega) h
   refine ⟨o',e,?_,h2,h3,by rw [hunf];exact h4⟩
   rw [show j-acc.size=(j-(acc.push (msk acc o)).size)+1 by simp;omega]
   simpa using h1
  ·have:j=acc.size:=by omega
   subst this
   rw [hunf,bef_old _ _ _ (by simp)] at h
   simp only [Array.getD_eq_getD_getElem?,Array.getElem?_push_size,Option.getD_some] at h
   obtain ⟨e,h1,h2,h3⟩:=msk_bit acc o k h
   refine ⟨o,e,by simp,h1,h2,h3.imp id fun h3=>?_⟩
   have hlt:e.on<acc.size:=by
    rcases Nat.lt_or_ge e.on acc.size with h' | h'
    ·exact h'
    ·simp [Array.getElem?_eq_none h'] at h3
   refine ⟨hlt,?_⟩
   rw [hunf,bef_old _ _ _ (by simp;omega)]
   rw [Array.getD_eq_getD_getElem?,Array.getElem?_push,if_neg (by omega),←Array.getD_eq_getD_getElem?]
   exact h3
theorem before_bit {ops:Array Oper} {j k:Nat} (h:((Region.before ops).getD j 0).testBit k=true) :
  ∃ o e,ops[j]? = some o∧e∈o.after∧Region.binds .any e=true∧(k=e.on∨(e.on<j∧((Region.before ops).getD e.on 0).testBit k=true)):=by
 rw [before_eq] at h ⊢
 obtain ⟨o,e,h1,h2⟩:=bef_bit ops.toList #[] j k (by simp) h
 exact ⟨o,e,by simpa using h1,h2⟩
def Closed (ops:Array Oper) (listed:Array Bool):Prop:=∀ (j:Nat) (o:Oper) (e:Edge),listed.getD j false=true→ops[j]? = some o→e∈o.after→Region.binds .any e=true→listed.getD e.on false=true
theorem before_listed {ops:Array Oper} {listed:Array Bool} (hc:Closed ops listed):∀ (j:Nat),(∀ o e,ops[j]? = some o→e∈o.after→Region.binds .any e=true→listed.getD e.on false=true)→∀ k,((Region.before ops).getD j 0).testBit k=true→listed.getD k false=true:=by
 intro j
 induction j using Nat.strongRecOn with
 | ind j ih =>
  intro hj k hk
  obtain ⟨o,e,h1,h2,h3,h4⟩:=before_bit hk
  have hl:=hj o e h1 h2 h3
  rcases h4 with rfl | ⟨hlt,hb⟩
  ·exact hl
  ·exact ih e.on hlt (fun o' e' g1 g2 g3=>hc e.on o' e' hl g1 g2 g3) k hb
theorem Closed.set {ops:Array Oper} {listed:Array Bool} {i:Nat} (hc:Closed ops listed) (hi:i∈Region.ready .any ops listed):Closed ops (listed.setIfInBounds i true):=by
 intro j o e hj ho he hb
 refine getD_set_true ?_
 by_cases e':j=i
 ·subst e'
  obtain ⟨_,o',ho',hall⟩:=mem_ready.1 hi
  rw [ho] at ho';injection ho' with ho';subst ho'
  exact hall e he hb
 ·rw [getD_set_ne false (Ne.symm e')] at hj
  exact hc j o e hj ho he hb
theorem ready_before {ops:Array Oper} {listed:Array Bool} {i:Nat} (hc:Closed ops listed) (hi:i∈Region.ready .any ops listed):∀ k,((Region.before ops).getD i 0).testBit k=true→listed.getD k false=true:=by
 refine before_listed hc i fun o e ho he hb=>?_
 obtain ⟨_,o',ho',hall⟩:=mem_ready.1 hi
 rw [ho] at ho';injection ho' with ho';subst ho'
 exact hall e he hb
section
variable {cl:Cl} {b:Array Nat} {C:List (Bool×SOper)} {r:Env×List Ob}
def sAt (C:List (Bool×SOper)) (i:Nat):SOper:=((C[i]?).map (·.2)).getD default
def barAt (C:List (Bool×SOper)) (i:Nat):Bool:=((C[i]?).map (·.1)).getD false
def Cont (cl:Cl) (b:Array Nat) (C:List (Bool×SOper)) (m:Nat) (ps:List Nat) (E:Env) (H:List Ob) (r:Env×List Ob):Prop :=
 (m=C.length∧r=settle ps E H)∨(m<C.length∧∃ E2 H2,stepO cl (sAt C m) (settle ps E H).1 (settle ps E H).2=some (E2,H2)∧stepsD cl (withUn b (m+1) (m+1) (C.drop (m+1))) [] [] E2 H2=some r)
def unord (b:Array Nat) (i j:Nat):Prop:=(b.getD j 0).testBit i=false
abbrev Ln:=List (Nat×Lo)
structure Seg (cl:Cl) (b:Array Nat) (C:List (Bool×SOper)) (j m:Nat) (L:Ln) (ps:List Nat) (E:Env) (H:List Ob) (r:Env×List Ob):Prop where
 le:m≤C.length
 nb:∀ i,j≤i→i<m→barAt C i=false
 br:m<C.length→barAt C m=true
 run:∃ E1 H1,Run cl (L.map fun x=>sAt C x.1) (L.map (·.2)) E H E1 H1∧Cont cl b C m ps E1 H1 r
 ds:∀ x,x∈L→∀ t,(sAt C x.1).dst=some t→t∈ps
 pw:L.Pairwise fun x y=>unord b x.1 y.1→nocl x.2 y.2
theorem clash_false {lg:Log} {un:List Nat} {l:Lo} (h:clash lg un l=false):∀ i,i∈un→∃ x,lg[i]? = some x∧nocl x l:=by
 intro i hi
 unfold clash at h
 rw [List.any_eq_false] at h
 have:=h i hi
 cases hh:lg[i]? with
 | none=>rw [hh] at this;simp at this
 | some x =>
  rw [hh] at this
  simp at this
  exact ⟨x,rfl,this⟩
theorem stepO_call_shape {s:SOper} {E E1:Env} {H H1:List Ob} (hc:isCall s.op=true) (h:stepO cl s E H=some (E1,H1)):∃ d,E1=putE s.dst d E:=by
 rcases stepO_call_congr (cl:=cl) (H:=H) hc (fun t _=>rfl:EnvAt (rdS s) E E) with ⟨a,_⟩ | ⟨d,H2,a,_⟩
 ·rw [a] at h;cases h
 ·rw [a] at h;injection h with h;simp only [Prod.mk.injEq] at h;exact ⟨d,h.1.symm⟩
theorem seg_of (s0:Nat):∀ (cs:List (Bool×SOper)) (j:Nat) (lg:Log) (ps:List Nat) (E:Env) (H:List Ob),C.drop j=cs→j≤C.length→s0≤j→lg.length=j-s0→stepsD cl (withUn b s0 j cs) lg ps E H=some r →
  ∃ m L ps',j≤m∧L.map (·.1)=List.range' j (m-j)∧Seg cl b C j m L ps' E H r∧(∀ t,t∈ps→t∈ps')∧(∀ x,x∈L→∀ i l,lg[i]? = some l→unord b (s0+i) x.1→nocl l x.2)
 | [],j,lg,ps,E,H,hd,hj,hs,hl,he=>by
  have hjn:j=C.length:=by
   have:=congrArg List.length hd
   simp at this;omega
  simp only [withUn,stepsD,Option.some.injEq] at he
  refine ⟨j,[],ps,Nat.le_refl _,by simp,⟨by omega,by omega,by omega,⟨E,H,⟨fun _=>rfl,rfl⟩, .inl ⟨hjn,he.symm⟩⟩,by simp, .nil⟩,fun _ h=>h,by simp⟩
 | (bar,s) :: cs,j,lg,ps,E,H,hd,hj,hs,hl,he=>by
  have hget:C[j]? = some (bar,s):=by
   have:(C.drop j)[0]? = some (bar,s):=by rw [hd];rfl
   rw [List.getElem?_drop] at this
   simpa using this
  have hlt:j<C.length:=by
   rcases Nat.lt_or_ge j C.length with h | h
   ·exact h
   ·rw [List.getElem?_eq_none h] at hget;cases hget
  have hd':C.drop (j+1)=cs:=by rw [←List.drop_drop,hd];rfl
  have hsA:sAt C j=s:=by simp [sAt,hget]
  have hbA:barAt C j=bar:=by simp [barAt,hget]
  simp only [withUn,stepsD] at he
  cases bar with
  | true =>
   simp only [if_true] at he
   obtain ⟨⟨E2,H2⟩,h1,h2⟩:=Option.bind_eq_some_iff.1 he
   refine ⟨j,[],ps,Nat.le_refl _,by simp,⟨hj,by omega,fun _=>hbA,⟨E,H,⟨fun _=>rfl,rfl⟩, .inr ⟨hlt,E2,H2,by rw [hsA];exact h1,by rw [hd'];exact h2⟩⟩,by simp, .nil⟩,fun _ h=>h,by simp⟩
  | false =>
   simp only [Bool.false_eq_true,if_false] at he
   have main:∀ (l:Lo) (E1':Env) (H1':List Ob),stepsD cl (withUn b s0 (j+1) cs) (lg++[l]) (ps++s.dst.toList) E1' H1'=some r→clash lg (List.filter (fun k=>!(b.getD j 0).testBit (s0+k)) (List.range (j-s0))) l=false →
     (∀ {ss:List SOper} {ls:List Lo} {E2:Env} {H2:List Ob},Run cl ss ls E1' H1' E2 H2→Run cl (s :: ss) (l :: ls) E H E2 H2) →
     ∃ m L ps',j≤m∧L.map (·.1)=List.range' j (m-j)∧Seg cl b C j m L ps' E H r∧(∀ t,t∈ps→t∈ps')∧(∀ x,x∈L→∀ i l,lg[i]? = some l→unord b (s0+i) x.1→nocl l x.2):=by
    intro l E1' H1' h2 hcl hstep
    have hnc:=clash_false hcl
    obtain ⟨m,L,ps',g1,g2,g3,g4,g5⟩:=seg_of s0 cs (j+1) (lg++[l]) (ps++s.dst.toList) _ _ hd' (by omega) (by omega) (by simp;omega) h2
    obtain ⟨E1,H1,hrun,hcont⟩:=g3.run
    have hself:∀ x,x∈L→unord b j x.1→nocl l x.2:=by
     intro x hx hu
     have:=g5 x hx lg.length l (by simp) (by rw [hl,show s0+(j-s0)=j by omega];exact hu)
     exact this
    refine ⟨m,(j,l) :: L,ps',by omega,?_,⟨g3.le,fun i h1 h2=>?_,g3.br,⟨E1,H1,by simp only [List.map_cons,hsA];exact hstep hrun,hcont⟩,fun x hx t ht=>?_,?_⟩,fun t ht=>g4 t (by simp [ht]),fun x hx i l' hli hu=>?_⟩
    ·rw [List.map_cons,g2,show m-j=(m-(j+1))+1 by omega,List.range'_succ]
    ·rcases Nat.lt_or_ge j i with h | h
     ·exact g3.nb i (by omega) h2
     ·have:i=j:=by omega
      subst this;exact hbA
    ·rcases List.mem_cons.1 hx with rfl | hx
     ·simp only [hsA] at ht
      exact g4 t (by simp [ht])
     ·exact g3.ds x hx t ht
    ·exact List.pairwise_cons.2 ⟨fun x hx hu=>hself x hx hu,g3.pw⟩
    ·rcases List.mem_cons.1 hx with rfl | hx
     ·have hlen:i<lg.length:=by
       rcases Nat.lt_or_ge i lg.length with h | h
       ·exact h
       ·rw [List.getElem?_eq_none h] at hli;cases hli
      obtain ⟨l2,hl',hnn⟩:=hnc i (by
       rw [List.mem_filter,List.mem_range]
       exact ⟨by omega,by simpa [unord] using hu⟩)
      rw [hli] at hl';injection hl' with hl';subst hl'
      exact hnn
     ·exact g5 x hx i l' (by rw [List.getElem?_append_left];exact hli;rcases Nat.lt_or_ge i lg.length with h | h;exact h;rw [List.getElem?_eq_none h] at hli;cases hli) hu
   split at he
   ·rename_i hcall
    split at he
    ·rename_i hno
     obtain ⟨⟨E1',H1'⟩,h1,h2⟩:=Option.bind_eq_some_iff.1 he
     simp only at h2
     split at h2
     ·cases h2
     ·rename_i hcl
      simp only [Bool.not_eq_true] at hcl
      refine main _ _ _ h2 hcl fun hrun=> .inr ?_
      obtain ⟨d,rfl⟩:=stepO_call_shape hcall h1
      exact ⟨hcall,d,H1',fun t ht=>by rw [List.all_eq_true] at hno;exact hno t ht,h1,rfl,hrun⟩
    ·cases he
   ·rename_i hcall
    simp only [Bool.not_eq_true] at hcall
    obtain ⟨⟨d,e,u⟩,h1,h2⟩:=Option.bind_eq_some_iff.1 he
    simp only at h2
    split at h2
    ·cases h2
    ·rename_i hcl
     simp only [Bool.not_eq_true] at hcl
     exact main _ _ _ h2 hcl fun hrun=> .inl ⟨hcall,(d,e,u),h1,rfl,hrun⟩
end
end Lg
namespace Lg
open Go
set_option linter.unusedVariables false
set_option linter.unusedSimpArgs false
set_option linter.unusedSectionVars false
section
variable {P:Program} {num:FuncId→Option Nat} {fid:Nat→FuncId}
 {w0:World} {A0:Av} {Cb:Nat→Prop} {nt:Nt} {cl:Cl} {ops:Array Oper} {C:List (Bool×SOper)} {r:Env×List Ob} {Q:Exit→Act→World→Prop}
structure DrawOK (P:Program) (num:FuncId→Option Nat) (nt:Nt) (ops:Array Oper) (C:List (Bool×SOper)):Prop where
 len:C.length=ops.size
 op:∀ i o,ops[i]? = some o→∃ q,compOper P num nt.1 ops q o=some (sAt C i)
 bar:∀ i,barAt C i=true→∀ j,j<ops.size→(j<i→((Region.before ops).getD i 0).testBit j=true)∧(i<j→((Region.before ops).getD j 0).testBit i=true)
 dr:∀ i j,i<j→j<ops.size→unord (Region.before ops) i j→apartS (sAt C i) (sAt C j)
 ed:∀ j o e,ops[j]? = some o→e∈o.after→Region.binds .any e=true→e.on<j
theorem settled_no {own' own:Nat→List Nat} {ps:List Nat} (h:∀ t,t∈ps∨own t=[]→own' t=[]) (ho:∀ t,own t≠[]→t∈ps):own'=no:=by
 funext t
 by_cases e:own t=[]
 ·exact h t (.inr e)
 ·exact h t (.inl (ho t e))
theorem any_sound (hnum:∀ f g,num f=some g→fid g=f) (hr:ClR P fid cl.r) (hcg:CongrR cl.r) (hcw:ClW P fid cl.w) (D:DrawOK P num nt ops C) {ι0:Io}
  (hQ:∀ a' w' A' ι',St fid w0 A0 Cb nt w' A' ι' a' r.1 r.2 no→Ext ι0 ι'→Q .normal a' w') :
  ∀ (fuel:Nat) (listed:Array Bool) (a:Act) (w:World) (m:Nat) (L:Ln) (ps:List Nat) (E:Env) (H:List Ob) (own:Nat→List Nat) (A:Av) (ι:Io),
   listed.size=ops.size→Closed ops listed→(∀ i,i<ops.size→(listed.getD i true=false↔(i∈L.map (·.1)∨m≤i)))→(∀ x,x∈L→x.1<m)→m≤ops.size→L.Pairwise (fun x y=>x.1<y.1)→fuel=L.length+(ops.size-m) →
   (m<ops.size→barAt C m=true)→(∃ E1 H1,Run cl (L.map fun x=>sAt C x.1) (L.map (·.2)) E H E1 H1∧Cont cl (Region.before ops) C m ps E1 H1 r) →
   (∀ x,x∈L→∀ t,(sAt C x.1).dst=some t→t∈ps)→L.Pairwise (fun x y=>unord (Region.before ops) x.1 y.1→nocl x.2 y.2) →
   St fid w0 A0 Cb nt w A ι a E H own→(∀ t,own t≠[]→t∈ps)→Ext ι0 ι→wpAny P .any ops Q fuel listed a w:=by
 intro fuel
 have unl:∀ {listed:Array Bool} {i:Nat},listed.size=ops.size→i<ops.size→listed.getD i true=false→listed.getD i false=true→False:=by
  intro listed i h1 h2 h3 h4
  simp [h1,h2] at h3 h4
  rw [h3] at h4;cases h4
 induction fuel with
 | zero =>
  intro listed a w m L ps E H own A ι hsz hc hul hLm hm hasc hf hbr hrun hds hpw S hown hx
  have hL:L=[]:=List.length_eq_zero_iff.1 (by omega)
  subst hL
  have hmn:m=ops.size:=by omega
  refine ⟨?_,?_⟩
  ·refine List.eq_nil_iff_forall_not_mem.2 fun j hj=>?_
   obtain ⟨hj1,o,ho,_⟩:=mem_ready.1 hj
   have hlt:j<ops.size:=(Array.getElem?_eq_some_iff.1 ho).1
   rcases (hul j hlt).1 hj1 with h | h
   ·simp at h
   ·omega
  ·obtain ⟨E1,H1,h1,h2⟩:=hrun
   obtain ⟨hE,rfl⟩:=h1
   rcases h2 with ⟨_,rfl⟩ | ⟨hlt,_⟩
   ·obtain ⟨ι',own',S',h',x'⟩:=(S.lk hE).settle ps
    have:own'=no:=settled_no h' hown
    subst this
    exact hQ a w A ι' S' (hx.trans x')
   ·have:=D.len;omega
 | succ fuel ih =>
  intro listed a w m L ps E H own A ι hsz hc hul hLm hm hasc hf hbr hrun hds hpw S hown hx
  have first:∀ j0,j0<ops.size→listed.getD j0 true=false→(∀ k,k<j0→listed.getD k true=true)→j0∈Region.ready .any ops listed:=by
   intro j0 hlt hu hmin
   obtain ⟨o,ho⟩:∃ o,ops[j0]? = some o:=⟨_,Array.getElem?_eq_getElem hlt⟩
   refine mem_ready.2 ⟨hu,o,ho,fun e he hb=>?_⟩
   have hlt2:=D.ed j0 o e ho he hb
   have:=hmin e.on hlt2
   have hl3:e.on<listed.size:=by omega
   simp [hl3] at this ⊢;exact this
  have nonempty:Region.ready .any ops listed≠[]:=by
   intro hnil
   cases L with
   | nil =>
    have hmlt:m<ops.size:=by simp at hf;omega
    have:=first m hmlt ((hul m hmlt).2 (.inr (Nat.le_refl _))) (fun k hk=>by
     have hk':k<ops.size:=by omega
     cases hh:listed.getD k true with
     | true=>rfl
     | false=>rcases (hul k hk').1 hh with h | h;simp at h;omega)
    rw [hnil] at this;cases this
   | cons x L =>
    have hxm:=hLm x (by simp)
    have:=first x.1 (by omega) ((hul x.1 (by omega)).2 (.inl (by simp))) (fun k hk=>by
     have hk':k<ops.size:=by omega
     cases hh:listed.getD k true with
     | true=>rfl
     | false =>
      rcases (hul k hk').1 hh with h | h
      ·simp only [List.map_cons,List.mem_cons] at h
       rcases h with h | h
       ·omega
       ·obtain ⟨y,hy,e⟩:=List.mem_map.1 h
        have:=(List.pairwise_cons.1 hasc).1 y hy
        omega
      ·omega)
    rw [hnil] at this;cases this
  refine ⟨fun h=>(nonempty h).elim,fun i hi=>?_⟩
  obtain ⟨hiu,o,ho,hall⟩:=mem_ready.1 hi
  have hilt:i<ops.size:=(Array.getElem?_eq_some_iff.1 ho).1
  have hbef:=ready_before hc hi
  obtain ⟨q,hcomp⟩:=D.op i o ho
  have hsz':(listed.setIfInBounds i true).size=ops.size:=by simpa using hsz
  have hlisted':∀ k,k<ops.size→((listed.setIfInBounds i true).getD k true=false↔(k≠i∧listed.getD k true=false)):=by
   intro k hk
   by_cases e:i=k
   ·subst e;simp [hsz,hilt]
   ·rw [getD_set_ne true e];exact ⟨fun h=>⟨fun h'=>e h'.symm,h⟩,fun h=>h.2⟩
  have notlater:m<i→False:=by
   intro h
   have hmlt:m<ops.size:=by omega
   have h1:=(D.bar m (hbr hmlt) i hilt).2 h
   exact unl hsz hmlt ((hul m hmlt).2 (.inr (Nat.le_refl _))) (hbef m h1)
  by_cases hmem:i∈L.map (·.1)
  ·
   obtain ⟨x,hxL,rfl⟩:=List.mem_map.1 hmem
   obtain ⟨L1,L2,rfl⟩:=List.append_of_mem hxL
   obtain ⟨E1,H1,h1,h2⟩:=hrun
   have hasc':=List.pairwise_append.1 hasc
   have hpw':=List.pairwise_append.1 hpw
   have hpre:∀ p,p∈L1.map (fun y=>(sAt C y.1,y.2))→apartS p.1 (sAt C x.1)∧nocl p.2 x.2:=by
    intro p hp
    obtain ⟨y,hy,rfl⟩:=List.mem_map.1 hp
    have hlt:=hasc'.2.2 y hy x (by simp)
    have hu:unord (Region.before ops) y.1 x.1:=by
     cases hh:((Region.before ops).getD x.1 0).testBit y.1 with
     | false=>exact hh
     | true =>
      exfalso
      have hy':y.1<ops.size:=by have:=hLm y (by simp [hy]);omega
      exact unl hsz hy' ((hul y.1 hy').2 (.inl (List.mem_map.2 ⟨y,by simp [hy],rfl⟩))) (hbef y.1 hh)
    exact ⟨D.dr y.1 x.1 hlt hilt hu,hpw'.2.2 y hy x (by simp) hu⟩
   have h1':Run cl ((L1.map fun y=>(sAt C y.1,y.2)).map (·.1)++sAt C x.1 :: L2.map fun y=>sAt C y.1) ((L1.map fun y=>(sAt C y.1,y.2)).map (·.2)++x.2 :: L2.map (·.2)) E H E1 H1:=by
    simpa [List.map_map,Function.comp_def] using h1
   have hb:=Run.bubble hcg _ hpre h1'
   have next:∀ {a':Act} {w':World} {A':Av} {ι':Io} {E2:Env} {H2:List Ob} {own':Nat→List Nat},Run cl (L1.map (fun y=>(sAt C y.1,y.2)) |>.map (·.1) |> (·++L2.map fun y=>sAt C y.1)) (L1.map (fun y=>(sAt C y.1,y.2)) |>.map (·.2) |> (·++L2.map (·.2))) E2 H2 E1 H1 →
     St fid w0 A0 Cb nt w' A' ι' a' E2 H2 own'→(∀ t,own' t≠[]→(sAt C x.1).dst=some t∨own t≠[])→Ext ι0 ι'→wpAny P .any ops Q fuel (listed.setIfInBounds x.1 true) a' w':=by
    intro a' w' A' ι' E2 H2 own' g4 S' hown' hx'
    refine ih _ a' w' m (L1++L2) ps _ _ _ A' ι' hsz' (hc.set hi) (fun k hk=>?_) (fun y hy=>hLm y (by simp at hy ⊢;rcases hy with h | h;exact .inl h;exact .inr (.inr h))) hm ?_ (by simp at hf ⊢;omega) hbr ⟨E1,H1,by simpa [List.map_map,Function.comp_def] using g4,h2⟩ (fun y hy=>hds y (by simp at hy ⊢;rcases hy with h | h;exact .inl h;exact .inr (.inr h))) ?_ S' (fun t ht=>?_) hx'
    ·rw [hlisted' k hk,hul k hk]
     constructor
     ·rintro ⟨hne,h | h⟩
      ·left
       obtain ⟨y,hy,rfl⟩:=List.mem_map.1 h
       refine List.mem_map.2 ⟨y,?_,rfl⟩
       simp at hy ⊢
       rcases hy with h | h | h
       ·exact .inl h
       ·exact (hne (by rw [h])).elim
       ·exact .inr h
      ·exact .inr h
     ·rintro (h | h)
      ·obtain ⟨y,hy,rfl⟩:=List.mem_map.1 h
       simp at hy
       rcases hy with hy | hy
       ·have:=hasc'.2.2 y hy x (by simp)
        exact ⟨by omega, .inl (List.mem_map.2 ⟨y,by simp [hy],rfl⟩)⟩
       ·have:=(List.pairwise_cons.1 hasc'.2.1).1 y hy
        exact ⟨by omega, .inl (List.mem_map.2 ⟨y,by simp [hy],rfl⟩)⟩
      ·have:=hLm x (by simp)
       exact ⟨by omega, .inr h⟩
    ·exact List.pairwise_append.2 ⟨hasc'.1,(List.pairwise_cons.1 hasc'.2.1).2,fun y hy z hz=>hasc'.2.2 y hy z (by simp [hz])⟩
    ·exact List.pairwise_append.2 ⟨hpw'.1,(List.pairwise_cons.1 hpw'.2.1).2,fun y hy z hz=>hpw'.2.2 y hy z (by simp [hz])⟩
    ·rcases hown' t ht with hd | hd
     ·exact hds x (by simp) t hd
     ·exact hown t hd
   rcases hb with ⟨hcl,⟨d,e,u⟩,g1,g2,g4⟩ | ⟨hcl,d,H2,g0,g1,g2,g4⟩
   ·refine wpOp_of ho (stepX_sound hr hcomp S g1 hnum fun a' w' A' O S'=>?_)
    refine next g4 S' (fun t ht=>?_) hx
    unfold put1 at ht
    split at ht
    ·rename_i hd;exact .inl hd
    ·split at ht
     ·exact (ht rfl).elim
     ·exact .inr ht
   ·refine wpOp_of ho (stepW_sound hcw hcomp S hcl g0 g1 hnum fun a' w' A' ι' S' x'=>?_)
    refine next g4 S' (fun t ht=>?_) (hx.trans x')
    unfold put1 at ht
    split at ht
    ·exact (ht rfl).elim
    ·exact .inr ht
  ·
   have hge:m≤i:=by
    rcases (hul i hilt).1 hiu with h | h
    ·exact (hmem h).elim
    ·exact h
   have him:i=m:=by
    rcases Nat.lt_or_ge m i with h | h
    ·exact (notlater h).elim
    ·omega
   subst him
   have hL:L=[]:=by
    cases L with
    | nil=>rfl
    | cons x L =>
     exfalso
     have hxm:=hLm x (by simp)
     have h1:=(D.bar i (hbr hilt) x.1 (by omega)).1 hxm
     exact unl hsz (by omega) ((hul x.1 (by omega)).2 (.inl (by simp))) (hbef x.1 h1)
   subst hL
   obtain ⟨E1,H1,h1,h2⟩:=hrun
   obtain ⟨hE,rfl⟩:=h1
   rcases h2 with ⟨he,_⟩ | ⟨_,E2,H2,h3,h4⟩
   ·have:=D.len;omega
   ·obtain ⟨ι1,own1,S1,h',x1⟩:=(S.lk hE).settle ps
    have:own1=no:=settled_no h' hown
    subst this
    refine wpOp_of ho (stepO_sound hr hcw hcomp S1 h3 hnum fun a' w' A' ι' S' x'=>?_)
    obtain ⟨m',L',ps',k1,k2,k3,_,_⟩:=seg_of (i+1) (C.drop (i+1)) (i+1) [] [] E2 H2 rfl (by have:=D.len;omega) (Nat.le_refl _) (by simp) h4
    have hLlen:L'.length=m'-(i+1):=by have:=congrArg List.length k2;simpa using this
    have hmem':∀ k,k∈L'.map (·.1)↔i+1≤k∧k<m':=by intro k;rw [k2,List.mem_range'_1];omega
    refine ih _ a' w' m' L' ps' E2 H2 no A' ι' hsz' (hc.set hi) (fun k hk=>?_) (fun y hy=>((hmem' y.1).1 (List.mem_map.2 ⟨y,hy,rfl⟩)).2) (by have:=k3.le;have:=D.len;omega) ?_ (by simp at hf;have:=k3.le;have:=D.len;omega) (fun h=>k3.br (by have:=D.len;omega)) k3.run k3.ds k3.pw S' (fun t ht=>(ht rfl).elim) ((hx.trans x1).trans x')
    ·rw [hlisted' k hk,hul k hk,hmem']
     simp only [List.map_nil,List.not_mem_nil,false_or]
     omega
    ·have:=List.pairwise_lt_range' (s:=i+1) (n:=m'-(i+1)) (step:=1)
     rw [←k2,List.pairwise_map] at this
     exact this
end
end Lg
namespace Lg
open Go
set_option linter.unusedVariables false
set_option linter.unusedSimpArgs false
set_option linter.unusedSectionVars false
section
variable {P:Program} {num:FuncId→Option Nat} {fid:Nat→FuncId}
 {w0:World} {A0:Av} {Cb:Nat→Prop} {nt:Nt} {w:World} {A:Av} {ι:Io} {a:Act} {E E':Env} {H H':List Ob} {cl:Cl} {ops:Array Oper} {C:List (Bool×SOper)} {r:Env×List Ob} {Q:Exit→Act→World→Prop}
theorem compDraw_spec {b:Array Nat}:∀ (os:List Oper) (i:Nat) (C:List (Bool×SOper)),compDraw P num nt.1 ops b i os=some C →
  C.length=os.length∧∀ (k:Nat) (o:Oper),os[k]? = some o→∃ s,C[k]? = some (barrier ops b (i+k),s)∧∃ q,compOper P num nt.1 ops q o=some s
 | [],i,C,h=>by
  simp only [compDraw,Option.some.injEq] at h;subst h
  exact ⟨rfl,by simp⟩
 | o :: os,i,C,h=>by
  simp only [compDraw] at h
  obtain ⟨s,h1,h⟩:=Option.bind_eq_some_iff.1 h
  obtain ⟨l,h2,rfl⟩:=Option.map_eq_some_iff.1 h
  obtain ⟨e1,e2⟩:=compDraw_spec os (i+1) l h2
  refine ⟨by simp [e1],fun k o' hk=>?_⟩
  cases k with
  | zero=>simp at hk;subst hk;exact ⟨s,rfl,_,h1⟩
  | succ k =>
   obtain ⟨s',g1,g2⟩:=e2 k o' (by simpa using hk)
   exact ⟨s',by rw [show i+(k+1)=i+1+k by omega];simpa using g1,g2⟩
theorem drawOK_of (h1:edgesOk ops=true) (h2:compDraw P num nt.1 ops (Region.before ops) 0 ops.toList=some C) (h3:drawOk C (Region.before ops)=true):DrawOK P num nt ops C:=by
 obtain ⟨hl,hs⟩:=compDraw_spec _ _ _ h2
 have hl':C.length=ops.size:=by simpa using hl
 refine ⟨hl',fun i o ho=>?_,fun i hb j hj=>?_,fun i j hij hj hu=>?_,fun j o e ho he hb=>?_⟩
 ·obtain ⟨s,g1,q,g2⟩:=hs i o (by simpa using ho)
  exact ⟨q,by simp only [sAt,g1,Option.map_some,Option.getD_some];exact g2⟩
 ·have hilt:i<ops.size:=by
   rcases Nat.lt_or_ge i ops.size with h | h
   ·exact h
   ·simp [barAt,List.getElem?_eq_none (show C.length≤i by omega)] at hb
  obtain ⟨s,g1,_⟩:=hs i ops[i] (by simp [hilt])
  simp only [barAt,g1,Option.map_some,Option.getD_some,Nat.zero_add] at hb
  unfold barrier at hb
  rw [List.all_eq_true] at hb
  have:=hb j (List.mem_range.2 hj)
  constructor
  ·intro h;rw [if_pos h] at this;exact this
  ·intro h;rw [if_neg (by omega),if_pos h] at this;exact this
 ·unfold drawOk at h3
  rw [List.all_eq_true] at h3
  have:=h3 j (List.mem_range.2 (by omega))
  rw [List.all_eq_true] at this
  have:=this i (List.mem_range.2 hij)
  unfold pairOk at this
  rw [show ((Region.before ops).getD j 0).testBit i=false from hu,Bool.false_or] at this
  have e1:C[i]? = some (C[i]'(by omega)):=List.getElem?_eq_getElem (by omega)
  have e2:C[j]? = some (C[j]'(by omega)):=List.getElem?_eq_getElem (by omega)
  rw [e1,e2] at this
  simp only [apartS,sAt,e1,e2,Option.map_some,Option.getD_some]
  simpa using this
 ·have hj:j<ops.size:=(Array.getElem?_eq_some_iff.1 ho).1
  unfold edgesOk at h1
  rw [List.all_eq_true] at h1
  have:=h1 j (List.mem_range.2 hj)
  rw [ho] at this
  simp only [List.all_eq_true] at this
  have:=this e (by simpa using he)
  rw [hb] at this
  simpa using this
theorem getD_replicate {n j:Nat} {d:Bool}:(Array.replicate n false).getD j d=if j<n then false else d:=by
 simp only [Array.getD_eq_getD_getElem?,Array.getElem?_replicate]
 split<;>simp
theorem reg_sound (hnum:∀ f g,num f=some g→fid g=f) (hr:ClR P fid cl.r) (hcg:CongrR cl.r) (hcw:ClW P fid cl.w) (hmix:P.follows .mixedOrders=true) {id:Nat} {draw:Bool} {c:SCode} (hc:compReg P num nt.1 ops draw=some c)
  (S:St fid w0 A0 Cb nt w A ι a E H no) {ex:Ex} (he:evC cl c E H=some (ex,E',H')) (hQ:∀ a' w' A' ι',St fid w0 A0 Cb nt w' A' ι' a' E' H' no→Ext ι ι'→Q .normal a' w'):ex = .nrm∧(Code.region id ops draw).wp P Q a w:=by
 cases draw with
 | false =>
  simp only [compReg,Bool.false_eq_true,if_false] at hc
  obtain ⟨l,hl,rfl⟩:=Option.map_eq_some_iff.1 hc
  simp only [evC] at he
  obtain ⟨⟨E1,H1⟩,h1,h2⟩:=Option.map_eq_some_iff.1 he
  simp only [Prod.mk.injEq] at h2
  obtain ⟨rfl,rfl,rfl⟩:=h2
  refine ⟨rfl,wp_region ?_⟩
  have:=regO_sound hnum hr hcw (ops:=ops) (Q:=Q) ops.toList 0 l rfl hl h1 S hQ
  rw [List.range_eq_range']
  simpa using this
 | true =>
  simp only [compReg,if_true] at hc
  split at hc
  ·rename_i hed
   obtain ⟨C,hC,hc⟩:=Option.bind_eq_some_iff.1 hc
   split at hc
   ·rename_i hdr
    injection hc with hc;subst hc
    simp only [evC] at he
    obtain ⟨⟨E1,H1⟩,h1,h2⟩:=Option.map_eq_some_iff.1 he
    simp only [Prod.mk.injEq] at h2
    obtain ⟨rfl,rfl,rfl⟩:=h2
    refine ⟨rfl,wp_region_any hmix ?_⟩
    have D:=drawOK_of hed hC hdr
    have S':St fid w0 A0 Cb nt {w with drawn:=w.drawn+1} A ι a E H no:=S.world (O:=[]) ⟨List.nodup_nil,by simp,by simp,by simp⟩ (Keep.drawn w (w.drawn+1) A _)
    obtain ⟨m,L,ps,k1,k2,k3,_,_⟩:=seg_of 0 C 0 [] [] E H rfl (by omega) (Nat.le_refl _) rfl h1
    have hLlen:L.length=m-0:=by have:=congrArg List.length k2;simpa using this
    have hmem':∀ k,k∈L.map (·.1)↔0≤k∧k<m:=by intro k;rw [k2,List.mem_range'_1];omega
    refine any_sound hnum hr hcg hcw D (ι0:=ι) hQ ops.size _ a _ m L ps E H no A ι (by simp) ?_ (fun i hi=>?_) (fun y hy=>((hmem' y.1).1 (List.mem_map.2 ⟨y,hy,rfl⟩)).2) (by have:=k3.le;have:=D.len;omega) ?_ (by have:=k3.le;have:=D.len;omega) (fun h=>k3.br (by have:=D.len;omega)) k3.run k3.ds k3.pw S' (fun t ht=>(ht rfl).elim) (Ext.refl _)
    ·intro j o e hj ho he hb
     rw [getD_replicate] at hj
     simp at hj
    ·rw [getD_replicate,if_pos hi,hmem']
     simp;omega
    ·have:=List.pairwise_lt_range' (s:=0) (n:=m-0) (step:=1)
     rw [←k2,List.pairwise_map] at this
     exact this
   ·cases hc
  ·cases hc
end
end Lg
namespace Lg
open Go
set_option linter.unusedVariables false
set_option linter.unusedSimpArgs false
set_option linter.unusedSectionVars false
section
variable {fid:Nat→FuncId} {w:World} {A:Av} {ι ι':Io}
theorem idsDs_mem {d:D} {ds:List D} {i:Nat} (h:i∈idsD d):i∈idsDs (d :: ds):=by simp [idsDs,h]
theorem idsDs_tail {d:D} {ds:List D} {i:Nat} (h:i∈idsDs ds):i∈idsDs (d :: ds):=by simp [idsDs,h]
theorem LV.turn_both :
  (∀ {r:Bool} {v:Value} {d:D} {O:List Nat},LV fid w A ι r v d O→Lg.noTree d=true→(∀ i q,i∈idsD d→ι i=some q→ι' i=some q)→LV fid w A ι' r v d O) ∧
  (∀ {r:Bool} {vs:List Value} {ds:List D} {O:List Nat},LVs fid w A ι r vs ds O→Lg.noTrees ds=true→(∀ i q,i∈idsDs ds→ι i=some q→ι' i=some q)→LVs fid w A ι' r vs ds O):=by
 have key:∀ {r:Bool} {v:Value} {d:D} {O:List Nat},LV fid w A ι r v d O→Lg.noTree d=true→(∀ i q,i∈idsD d→ι i=some q→ι' i=some q)→LV fid w A ι' r v d O:=by
  intro r v d O h
  refine LV.rec (motive_1:=fun r v d O _=>Lg.noTree d=true→(∀ i q,i∈idsD d→ι i=some q→ι' i=some q)→LV fid w A ι' r v d O) (motive_2:=fun r vs ds O _=>Lg.noTrees ds=true→(∀ i q,i∈idsDs ds→ι i=some q→ι' i=some q)→LVs fid w A ι' r vs ds O)
   ?_ ?_ ?_ ?_ ?_ ?_ ?_ ?_ ?_ ?_ ?_ ?_ ?_ ?_ ?_ ?_ ?_ ?_ ?_ h
  ·intro r v h _ _;exact .sc v h
  ·intro r v _ _;exact .un v
  ·intro r v h _ _;exact .uk v h
  ·intro r _ _;exact .nl
  ·intro r a _ _;exact .sn a
  ·intro r f vs ds O _ ih n e;exact .fn f vs ds O (ih (by simpa [Lg.noTree] using n) fun i q hi=>e i q (by simpa [idsD] using hi))
  ·intro r vs ds O _ ih n e;exact .agg vs ds O (ih (by simpa [Lg.noTree] using n) fun i q hi=>e i q (by simpa [idsD] using hi))
  ·intro r vs ds O _ ih n e;exact .tup vs ds O (ih (by simpa [Lg.noTree] using n) fun i q hi=>e i q (by simpa [idsD] using hi))
  ·intro r a n cap sz ds vs hn hc hu h h1 hr ih _ _;exact .sl a n cap sz ds vs hn hc hu h.weak h1 hr
  ·intro r ad ds vs h h1 hr ih _ _;exact .ep ad ds vs h.weak h1 hr
  ·intro r a wr sz _ _;exact .osln a wr sz
  ·intro r b cap sz wr ds vs cs T fr hb hf hu h h1 hr hc hs ha hA ih _ _
   exact .osl b cap sz wr ds vs cs T fr hb hf hu h.weak h1 hr hc hs ha hA
  ·intro r b vs ds O T fr hb hf h h1 hA ih n;simp [Lg.noTree] at n
  ·intro r b es c ks xs hb h1 h2 hA ih1 ih2 n;simp [Lg.noTree] at n
  ·intro a id sz off len cap q hi h0 h1 _ e;exact .rf a id sz off len cap q (e id q (by simp [idsD]) hi) h0 h1
  ·intro id sz e off b hi _ e';exact .pt id sz e off b (e' id _ (by simp [idsD]) hi)
  ·intro id b hi _ e;exact .mp id b (e id _ (by simp [idsD]) hi)
  ·intro r _ _;exact .nil
  ·intro r v d O vs ds Os _ _ ih1 ih2 n e
   simp only [Lg.noTrees,Bool.and_eq_true] at n
   exact .cons v d O vs ds Os (ih1 n.1 fun i q hi=>e i q (idsDs_mem hi)) (ih2 n.2 fun i q hi=>e i q (idsDs_tail hi))
 refine ⟨key,?_⟩
 intro r vs
 induction vs with
 | nil=>intro ds O h _ _;cases h;exact .nil
 | cons v vs ih =>
  intro ds O h n e
  cases h with
  | cons _ d O1 _ ds O2 h hs =>
   simp only [Lg.noTrees,Bool.and_eq_true] at n
   exact .cons v d O1 vs ds O2 (key h n.1 fun i q hi=>e i q (idsDs_mem hi)) (ih hs n.2 fun i q hi=>e i q (idsDs_tail hi))
end
theorem wp_loop_n {P:Program} {Q:Exit→Act→World→Prop} {a:Act} {w:World} {c:Code} (I:Nat→Act→World→Prop) (n:Nat) (h₀:I n a w)
  (round:∀ n a w,I n a w→c.wp P (Exit.then (fun a' w'=>∃ m,m<n∧I m a' w') Q) a w):(Code.loop c).wp P Q a w:=by
 intro b k cs
 have key:∀ n a w,I n a w→∃ e a' w',Q e a' w'∧Arrives P (lone (b.at a (.code c :: .inLoop c :: k)) cs w) b k cs e a' w':=by
  intro n
  induction n using Nat.strongRecOn with
  | _ n ih =>
   intro a w hI
   obtain ⟨e,a₁,w₁,hq,harr⟩:=round n a w hI b (.inLoop c :: k) cs
   cases e with
   | normal =>
    obtain ⟨m,hlt,hI₁⟩:=hq
    obtain ⟨e₂,a₂,w₂,hq₂,harr₂⟩:=ih m hlt a₁ w₁ hI₁
    exact ⟨e₂,a₂,w₂,hq₂, .of_steps (Steps.trans harr (.one step_inLoop)) harr₂⟩
   | exit id=>exact ⟨_,a₁,w₁,hq, .pass (x:= .inLoop c) rfl (fun _ _=> .inl (by simp)) harr⟩
   | goto l=>exact ⟨_,a₁,w₁,hq, .pass (x:= .inLoop c) rfl (fun _ _=> .inl (by simp)) harr⟩
   | ret=>exact ⟨_,a₁,w₁,hq, .pass (x:= .inLoop c) rfl (fun _ _=> .inl (by simp)) harr⟩
   | panic ch=>exact ⟨_,a₁,w₁,hq, .pass (x:= .inLoop c) rfl (fun _ _=> .inl (by simp)) harr⟩
   | outgrown=>exact ⟨_,a₁,w₁,hq, .pass (x:= .inLoop c) rfl (fun _ _=> .inl (by simp)) harr⟩
 obtain ⟨e,a',w',hq,harr⟩:=key n a w h₀
 exact ⟨e,a',w',hq, .of_steps (.one step_loop) harr⟩
section
variable {P:Program} {num:FuncId→Option Nat} {fid:Nat→FuncId}
 {w0:World} {A0:Av} {Cb:Nat→Prop} {nt:Nt} {w:World} {A:Av} {ι:Io} {a:Act} {E E':Env} {H H':List Ob} {own:Nat→List Nat} {cl:Cl} {Q:Exit→Act→World→Prop}
theorem canon_lv {m:Mode} {r:Bool} {v:Value} {d:D} {O:List Nat} (h:LV fid w A ι r v d O):LV fid w A ι r v (canon m d) O:=by
 cases h with
 | sn ad =>
  simp only [canon]
  split
  ·exact .sn ad
  ·exact .osln ad _ _
 | osln ad wr sz=>exact .osln ad _ _
 | osl b cap sz wr ds vs cs T fr hb hf hu h h1 hr hc hs ha hA =>
  exact .osl b cap sz _ ds vs cs T fr hb hf hu h h1 hr hc hs (fun e=>ha (by simp at e;exact e.1)) hA
 | sc v h=>exact .sc v h
 | un v=>exact .un v
 | uk v h=>exact .uk v h
 | nl=>exact .nl
 | fn f vs ds O h=>exact .fn f vs ds _ h
 | agg vs ds O h=>exact .agg vs ds _ h
 | tup vs ds O h=>exact .tup vs ds _ h
 | sl a n cap sz ds vs hn hc hu h h1 hr=>exact .sl a n cap sz ds vs hn hc hu h h1 hr
 | ep ad ds vs h h1 hr=>exact .ep ad ds vs h h1 hr
 | obx b vs ds O T fr hb hf h h1 hA=>exact .obx b vs ds O T fr hb hf h h1 hA
 | omp b es c ks xs hb hk hx hA=>exact .omp b es c ks xs hb hk hx hA
 | rf a id sz off len cap q hi h0 h1=>exact .rf a id sz off len cap q hi h0 h1
 | pt id sz e off b hi=>exact .pt id sz e off b hi
 | mp id b hi=>exact .mp id b hi
def Spare (ι:Io) (H:List Ob) (A A1:Av):Prop:=∀ b,(∀ i,alive (obAt H i)=true→ι i≠some (some b))→∀ off,A b off→A1 b off
theorem foldM_sound {m:Mode} {v:Value} {d d':D} (S:St fid w0 A0 Cb nt w A ι a E H no) (l:LV fid w A ι true v d []) (h:foldM m d H=some (d',H')) :
  ∃ A1 O,(∀ b off,A1 b off→A b off)∧Spare ι H A A1∧LV fid w A1 (fun _=>none) false v d' O∧O.Nodup∧(∃ I,Mix H H' I)∧Taken ι H H' O∧St fid w0 A0 Cb nt w A1 ι a E H' no:=by
 unfold foldM at h
 split at h
 ·obtain ⟨⟨d1,H1⟩,h1,h2⟩:=Option.map_eq_some_iff.1 h
  simp only [Prod.mk.injEq] at h2
  obtain ⟨rfl,rfl⟩:=h2
  obtain ⟨O,l1,n1,g1,t1⟩:=fld_sound (ι':=fun _=>none) depth v d d1 H H1 l S.ob S.inj h1
  have S':=S.freeze g1.mix
  have e:less A ι H []=A:=by funext b off;simp [less,Fz]
  rw [e] at S'
  exact ⟨A,O,fun _ _ h=>h,fun _ _ _ h=>h,canon_lv l1,n1,⟨[],g1.mix⟩,t1,S'⟩
 ·have hR:=less_out A ι H (idsD d)
  obtain ⟨l1,f1⟩:=rof_sound (fz:=true) (ι':=fun _=>none) (less_le A ι H (idsD d)) l H H' d' (owOK S.ob) hR (by simp) h
  simp only [if_true] at f1
  refine ⟨less A ι H (idsD d),[],less_le _ _ _ _,fun b hb off hA=>⟨hA,?_⟩,l1,List.nodup_nil,⟨_,f1.mix⟩,by intro b hb;simp at hb,S.freeze f1.mix⟩
  rintro ⟨i,wr,sz,ds,g1,g2,g3,g4⟩
  exact hb i (by rw [g3];rfl) g2
def vals (a:Act) (live:List (Nat×Mode)):List Value:=live.map fun p=>a.tmps.getD p.1 undef
theorem foldL_sound:∀ (live:List (Nat×Mode)) {A:Av} {H:List Ob} {ts:List D} {H':List Ob},St fid w0 A0 Cb nt w A ι a E H no→foldL live E H=some (ts,H') →
  ∃ A1 O,(∀ b off,A1 b off→A b off)∧Spare ι H A A1∧LVs fid w A1 (fun _=>none) false (vals a live) ts O∧O.Nodup∧(∃ I,Mix H H' I)∧Taken ι H H' O∧St fid w0 A0 Cb nt w A1 ι a E H' no
 | [],A,H,ts,H',S,h=>by
  simp only [foldL,Option.some.injEq,Prod.mk.injEq] at h
  obtain ⟨rfl,rfl⟩:=h
  exact ⟨A,[],fun _ _ h=>h,fun _ _ _ h=>h, .nil,List.nodup_nil,⟨[],(Gone.refl H).mix⟩,by intro b hb;simp at hb,S⟩
 | (t,m) :: live,A,H,ts,H',S,h=>by
  simp only [foldL] at h
  obtain ⟨⟨ts2,H2⟩,h2,h⟩:=Option.map_eq_some_iff.1 h
  simp only [Prod.mk.injEq] at h
  obtain ⟨rfl,rfl⟩:=h
  have one:∃ A1 O1,(∀ b off,A1 b off→A b off)∧Spare ι H A A1∧LV fid w A1 (fun _=>none) false (a.tmps.getD t undef) ((foldM m (lk E t) H).getD (.un,H)).1 O1∧O1.Nodup∧(∃ I,Mix H ((foldM m (lk E t) H).getD (.un,H)).2 I)∧Taken ι H ((foldM m (lk E t) H).getD (.un,H)).2 O1∧St fid w0 A0 Cb nt w A1 ι a E ((foldM m (lk E t) H).getD (.un,H)).2 no:=by
   cases hh:foldM m (lk E t) H with
   | none=>exact ⟨A,[],fun _ _ h=>h,fun _ _ _ h=>h, .un _,List.nodup_nil,⟨[],(Gone.refl H).mix⟩,by intro b hb;simp at hb,S⟩
   | some p=>exact foldM_sound S (S.lv t) hh
  revert h2
  generalize (foldM m (lk E t) H).getD (.un,H)=p at one
  intro h2
  obtain ⟨d1,H1⟩:=p
  simp only at h2 one ⊢
  obtain ⟨A1,O1,a1,s1,l1,n1,⟨I1,m1⟩,t1,S1⟩:=one
  obtain ⟨A2,O2,a2,s2,l2,n2,⟨I2,m2⟩,t2,S2⟩:=foldL_sound live S1 h2
  have hdead:∀ b,b∈O1→∀ i,alive (obAt H1 i)=true→ι i≠some (some b):=by
   intro b hb i ha hi
   obtain ⟨j,e1,e2,e3⟩:=t1 b hb
   have:=S.inj j i b e2 (m1.alive ha) e1 hi
   subst this
   rw [e3] at ha;cases ha
  refine ⟨A2,O1++O2,fun b off h=>a1 b off (a2 b off h),fun b hb off hA=>s2 b (fun i ha=>hb i (m1.alive ha)) off (s1 b hb off hA),?_,?_,⟨_,m1.trans m2⟩,?_,S2⟩
  ·exact .cons _ d1 O1 _ ts2 O2 (l1.narrowO a2 (fun b hb off hA=>s2 b (hdead b hb) off hA)) l2
  ·refine List.nodup_append.2 ⟨n1,n2,fun x hx y hy e=>?_⟩
   subst e
   obtain ⟨j,e1,e2,e3⟩:=t2 x hy
   exact hdead x hx j e2 e1
  ·intro b hb
   rcases List.mem_append.1 hb with hb | hb
   ·obtain ⟨i,f1,f2,f3⟩:=t1 b hb
    refine ⟨i,f1,f2,?_⟩
    rcases m2.2 i with e | e
    ·exact e
    ·rw [e,f3];by_cases hq:i∈I2<;>simp [hq,frz]
   ·obtain ⟨i,f1,f2,f3⟩:=t2 b hb
    exact ⟨i,f1,m1.alive f2,f3⟩
theorem St.bare (S:St fid w0 A0 Cb nt w A ι a E H own):St fid w0 A0 Cb nt w A (fun _=>none) a [] [] no :=
 ⟨S.kp,S.al,S.cb,S.sz,S.fx,S.df,fun t=> .un _,fun i=>by rw [obAt_ge (by simp)];trivial,⟨fun _ _=>rfl,by simp,by simp,by simp [no],by simp,by simp [no],by simp [no]⟩⟩
theorem unfL_sound:∀ (live:List (Nat×Mode)) (ts:List D) {ι:Io} {H:List Ob} {O:List Nat},St fid w0 A0 Cb nt w A ι a E H no→LVs fid w A (fun _=>none) false (vals a live) ts O→Free Cb ι H no O →
  ∃ ι',St fid w0 A0 Cb nt w A ι' a E (unfL live ts H).2 no∧Ext ι ι'∧∀ p,p∈(unfL live ts H).1→LV fid w A ι' true (a.tmps.getD p.1 undef) p.2 []
 | [],ts,ι,H,O,S,l,F=>⟨ι,by simpa [unfL] using S,Ext.refl _,by simp [unfL]⟩
 | (t,m) :: live,[],ι,H,O,S,l,F=>⟨ι,by simpa [unfL] using S,Ext.refl _,by simp [unfL]⟩
 | (t,m) :: live,d :: ts,ι,H,O,S,l,F=>by
  cases l with
  | cons _ _ O1 _ _ O2 lv ls =>
   obtain ⟨ι1,N,l1,S1⟩:=S.absorb (r:=true) F.left lv.weak
   have x1:Ext ι ι1:=N.ext S.sp.len
   obtain ⟨ι2,S2,x2,h2⟩:=unfL_sound live ts S1 ls (F.rest S N)
   refine ⟨ι2,by simpa [unfL] using S2,x1.trans x2,fun p hp=>?_⟩
   simp only [unfL,List.mem_cons] at hp
   rcases hp with rfl | hp
   ·exact LV.keep (Keep.refl w A (fun _=>False)) x2 l1 (by simp)
   ·exact h2 p hp
theorem lk_mem:∀ (E:Env) (t:Nat),lk E t = .un∨(t,lk E t)∈E
 | [],t=> .inl rfl
 | (s,d) :: E,t=>by
  by_cases e:s=t
  ·subst e;right;simp [lk]
  ·rcases lk_mem E t with h | h
   ·left;simp only [lk,if_neg e];exact h
   ·right;simp only [lk,if_neg e];exact List.mem_cons_of_mem _ h
theorem St.env (S:St fid w0 A0 Cb nt w A ι a E H no) (h:∀ p,p∈E'→LV fid w A ι true (a.tmps.getD p.1 undef) p.2 []):St fid w0 A0 Cb nt w A ι a E' H no:=by
 refine ⟨S.kp,S.al,S.cb,S.sz,S.fx,S.df,fun t=>?_,S.ob,S.sp⟩
 rcases lk_mem E' t with e | e
 ·rw [e];exact .un _
 ·exact h (t,Lg.lk E' t) e
def LiveSt (fid:Nat→FuncId) (w0:World) (A0:Av) (Cb:Nat→Prop) (nt:Nt) (live:List (Nat×Mode)) (a:Act) (w:World) (ts:List D):Prop :=
 ∃ A O,St fid w0 A0 Cb nt w A (fun _=>none) a [] [] no∧LVs fid w A (fun _=>none) false (vals a live) ts O∧O.Nodup∧∀ b,b∈O→Cb b
theorem live_of {live:List (Nat×Mode)} {ts:List D} (S:St fid w0 A0 Cb nt w A ι a E H no) (h:foldL live E H=some (ts,H')):LiveSt fid w0 A0 Cb nt live a w ts:=by
 obtain ⟨A1,O,a1,s1,l1,n1,_,t1,S1⟩:=foldL_sound live S h
 refine ⟨A1,O,S1.bare,l1,n1,fun b hb=>?_⟩
 obtain ⟨i,e1,e2,_⟩:=t1 b hb
 exact S.sp.ib i b e2 e1
theorem of_live {live:List (Nat×Mode)} {ts:List D} (h:LiveSt fid w0 A0 Cb nt live a w ts):∃ A ι,St fid w0 A0 Cb nt w A ι a (unfL live ts []).1 (unfL live ts []).2 no:=by
 obtain ⟨A,O,S,l,n,hc⟩:=h
 obtain ⟨ι',S',_,hp⟩:=unfL_sound live ts S l ⟨n,hc,by simp [no],by intro b hb i ha;rw [obAt_ge (by simp)] at ha;cases ha⟩
 exact ⟨A,ι',S'.env hp⟩
def cutI (n:Nat) (ι:Io):Io:=fun i=>if i<n then ι i else none
theorem keepOb_alive {n:Nat} {o:Ob} (h:alive (keepOb n o)=true):alive o=true:=by
 cases o<;>simp_all [keepOb,alive]
theorem obAt_trim (n:Nat) (H:List Ob) (i:Nat):obAt ((H.take n).map (keepOb n)) i=if i<n then keepOb n (obAt H i) else .dead:=by
 unfold obAt
 rw [List.getElem?_map,List.getElem?_take]
 split
 ·cases h:H[i]? with
  | none=>simp [keepOb]
  | some o=>simp
 ·rfl
theorem St.trim (S:St fid w0 A0 Cb nt w A ι a E H no) (live:List Nat) (n:Nat):St fid w0 A0 Cb nt w A (cutI n ι) a (trimR live n E H).1 (trimR live n E H).2 no:=by
 have hob:∀ i,ObjOK fid w A (cutI n ι) (cutI n ι i) (obAt ((H.take n).map (keepOb n)) i):=by
  intro i
  rw [obAt_trim]
  split
  ·rename_i hi
   have e:cutI n ι i=ι i:=by simp [cutI,hi]
   rw [e]
   have h:=S.ob i
   revert h
   generalize obAt H i=o
   intro h
   cases o with
   | bx ds =>
    simp only [keepOb]
    split
    ·rename_i hc
     simp only [Bool.and_eq_true,List.all_eq_true,decide_eq_true_eq] at hc
     obtain ⟨b,vs,T,fr,e1,h1,h2,h3,h4,h5⟩:=h
     exact ⟨b,vs,T,fr,e1,h1,h2,LV.turn_both.2 h3 hc.1 fun i q hi e=>by simp only [cutI,if_pos (hc.2 i hi)];exact e,h4,h5⟩
    ·trivial
   | ow wr sz ds=>exact h
   | mpo ks xs=>exact h
   | dead=>trivial
  ·trivial
 have hS:St fid w0 A0 Cb nt w A (cutI n ι) a [] ((H.take n).map (keepOb n)) no:=by
  refine ⟨S.kp,S.al,S.cb,S.sz,S.fx,S.df,fun t=> .un _,hob,⟨fun i hi=>?_,fun i b ha hi=>?_,fun i j b ha hb hi hj=>?_,S.sp.tb,by simp [no],S.sp.nd,by simp [no]⟩⟩
  ·simp only [cutI]
   split
   ·rename_i h
    simp only [List.length_map,List.length_take] at hi
    exact S.sp.len i (by omega)
   ·rfl
  ·rw [obAt_trim] at ha
   split at ha
   ·rename_i h
    simp only [cutI,if_pos h] at hi
    exact S.sp.ib i b (keepOb_alive ha) hi
   ·cases ha
  ·rw [obAt_trim] at ha hb
   split at ha
   ·rename_i h
    split at hb
    ·rename_i h'
     simp only [cutI,if_pos h] at hi
     simp only [cutI,if_pos h'] at hj
     exact S.sp.inj i j b (keepOb_alive ha) (keepOb_alive hb) hi hj
    ·cases hb
   ·cases ha
 refine hS.env fun p hp=>?_
 simp only [trimR,List.mem_map] at hp
 obtain ⟨t,_,rfl⟩:=hp
 simp only
 unfold keepD
 split
 ·rename_i hc
  simp only [Bool.and_eq_true,List.all_eq_true,decide_eq_true_eq] at hc
  exact LV.turn_both.1 (S.lv t) hc.1 fun i q hi e=>by simp only [cutI,if_pos (hc.2 i hi)];exact e
 ·exact .un _
def exOf:Ex→Exit
 | .nrm=> .normal
 | .exit id=> .exit id
 | .ret=> .ret
theorem evC_sound {ann:Ann} (hnum:∀ f g,num f=some g→fid g=f) (hr:ClR P fid cl.r) (hcg:CongrR cl.r) (hcw:ClW P fid cl.w) (hmix:P.follows .mixedOrders=true) :
  ∀ (code:Code) {c:SCode} {Q:Exit→Act→World→Prop} {w:World} {A:Av} {ι:Io} {a:Act} {E E':Env} {H H':List Ob} {ex:Ex},compC P num nt.1 ann code=some c→St fid w0 A0 Cb nt w A ι a E H no→evC cl c E H=some (ex,E',H') →
   (∀ a' w' A' ι',St fid w0 A0 Cb nt w' A' ι' a' E' H' no→(noLoop c=true→Ext ι ι')→Q (exOf ex) a' w')→code.wp P Q a w:=by
 intro code
 induction code with
 | skip =>
  intro c Q w A ι a E E' H H' ex hc S he hQ
  simp only [compC,Option.some.injEq] at hc;subst hc
  simp only [evC,Option.some.injEq,Prod.mk.injEq] at he
  obtain ⟨rfl,rfl,rfl⟩:=he
  exact wp_skip (hQ a w A ι S fun _=>Ext.refl _)
 | region id ops draw =>
  intro c Q w A ι a E E' H H' ex hc S he hQ
  simp only [compC] at hc
  have hex:ex = .nrm:=(reg_sound (Q:=fun _ _ _=>True) (id:=id) hnum hr hcg hcw hmix hc S he (fun _ _ _ _ _ _=>trivial)).1
  subst hex
  exact (reg_sound (Q:=Q) (id:=id) hnum hr hcg hcw hmix hc S he (fun a' w' A' ι' S' x=>hQ a' w' A' ι' S' fun _=>x)).2
 | seq x y ihx ihy =>
  intro c Q w A ι a E E' H H' ex hc S he hQ
  simp only [compC] at hc
  obtain ⟨cx,hx,hc⟩:=Option.bind_eq_some_iff.1 hc
  obtain ⟨cy,hy,rfl⟩:=Option.map_eq_some_iff.1 hc
  refine wp_seq ?_
  simp only [evC] at he
  cases hh:evC cl cx E H with
  | none=>rw [hh] at he;simp at he
  | some q =>
   obtain ⟨ex1,E1,H1⟩:=q
   rw [hh] at he
   cases ex1 with
   | nrm =>
    refine ihx hx S hh fun a1 w1 A1 ι1 S1 x1=>?_
    refine ihy hy S1 he fun a2 w2 A2 ι2 S2 x2=>hQ a2 w2 A2 ι2 S2 fun hn=>?_
    simp only [noLoop,Bool.and_eq_true] at hn
    exact (x1 hn.1).trans (x2 hn.2)
   | exit id =>
    simp only [Option.some.injEq,Prod.mk.injEq] at he
    obtain ⟨rfl,rfl,rfl⟩:=he
    refine ihx hx S hh fun a1 w1 A1 ι1 S1 x1=>hQ a1 w1 A1 ι1 S1 fun hn=>?_
    simp only [noLoop,Bool.and_eq_true] at hn
    exact x1 hn.1
   | ret =>
    simp only [Option.some.injEq,Prod.mk.injEq] at he
    obtain ⟨rfl,rfl,rfl⟩:=he
    refine ihx hx S hh fun a1 w1 A1 ι1 S1 x1=>hQ a1 w1 A1 ι1 S1 fun hn=>?_
    simp only [noLoop,Bool.and_eq_true] at hn
    exact x1 hn.1
 | cond o x y ihx ihy =>
  intro c Q w A ι a E E' H H' ex hc S he hQ
  simp only [compC] at hc
  obtain ⟨cx,hx,hc⟩:=Option.bind_eq_some_iff.1 hc
  obtain ⟨cy,hy,rfl⟩:=Option.map_eq_some_iff.1 hc
  simp only [evC] at he
  split at he
  ·rename_i b hb
   have hbv:a.eval o = .bool b:=by
    cases o with
    | tmp t =>
     have l:=S.lv t
     simp only [opd,ov] at hb
     rw [hb] at l
     exact l.inv_bool.1
    | const v =>
     simp only [opd,ov] at hb
     simp only [Act.eval]
     cases v<;>simp [dVal,dLeaf] at hb
     ·rw [hb]
     all_goals (repeat' split at hb)<;>simp_all
    | global g=>simp [opd,ov] at hb
    | func f=>simp only [opd] at hb;split at hb<;>simp [ov] at hb
   cases b with
   | true =>
    simp only [if_true] at he
    refine wp_cond_true hbv (ihx hx S he fun a1 w1 A1 ι1 S1 x1=>hQ a1 w1 A1 ι1 S1 fun hn=>?_)
    simp only [noLoop,Bool.and_eq_true] at hn
    exact x1 hn.1
   | false =>
    simp only [Bool.false_eq_true,if_false] at he
    refine wp_cond_false hbv (ihy hy S he fun a1 w1 A1 ι1 S1 x1=>hQ a1 w1 A1 ι1 S1 fun hn=>?_)
    simp only [noLoop,Bool.and_eq_true] at hn
    exact x1 hn.2
  ·cases he
 | block id x ihx =>
  intro c Q w A ι a E E' H H' ex hc S he hQ
  simp only [compC] at hc
  obtain ⟨cx,hx,rfl⟩:=Option.map_eq_some_iff.1 hc
  refine wp_block ?_
  simp only [evC] at he
  cases hh:evC cl cx E H with
  | none=>rw [hh] at he;simp at he
  | some q =>
   obtain ⟨ex1,E1,H1⟩:=q
   rw [hh] at he
   refine ihx hx S hh fun a1 w1 A1 ι1 S1 x1=>?_
   cases ex1 with
   | nrm =>
    simp only [Option.some.injEq,Prod.mk.injEq] at he
    obtain ⟨rfl,rfl,rfl⟩:=he
    exact hQ a1 w1 A1 ι1 S1 x1
   | exit id' =>
    simp only at he
    split at he
    ·rename_i e;subst e
     simp only [Option.some.injEq,Prod.mk.injEq] at he
     obtain ⟨rfl,rfl,rfl⟩:=he
     simp only [exOf,Exit.inBlock,if_true]
     exact hQ a1 w1 A1 ι1 S1 x1
    ·rename_i e
     simp only [Option.some.injEq,Prod.mk.injEq] at he
     obtain ⟨rfl,rfl,rfl⟩:=he
     simp only [exOf,Exit.inBlock,if_neg e]
     exact hQ a1 w1 A1 ι1 S1 x1
   | ret =>
    simp only [Option.some.injEq,Prod.mk.injEq] at he
    obtain ⟨rfl,rfl,rfl⟩:=he
    exact hQ a1 w1 A1 ι1 S1 x1
 | loop x ihx =>
  intro c Q w A ι a E E' H H' ex hc S he hQ
  simp only [compC] at hc
  obtain ⟨live,hlive,hc⟩:=Option.bind_eq_some_iff.1 hc
  obtain ⟨cx,hx,hc⟩:=Option.map_eq_some_iff.1 hc
  split at hc
  ·subst hc
   simp only [evC] at he
   refine wp_loop_n (fun m a w=>∃ s A ι,St fid w0 A0 Cb nt w A ι a s.1 s.2 no∧iterR _ m s=some (ex,E',H')) rounds ⟨_,_,_,S.trim (live.map (·.1)) H.length,he⟩ ?_
   rintro m a1 w1 ⟨s,A1,ι1,S1,hi⟩
   cases m with
   | zero=>simp [iterR] at hi
   | succ m =>
    simp only [iterR] at hi
    cases hh:evC cl cx s.1 s.2 with
    | none=>rw [hh] at hi;simp at hi
    | some q =>
     obtain ⟨ex1,E1,H1⟩:=q
     rw [hh] at hi
     simp only [Option.map_some] at hi
     refine ihx hx S1 hh fun a2 w2 A2 ι2 S2 _=>?_
     have S3:=S2.trim (live.map (·.1)) H.length
     cases ex1 with
     | nrm=>exact ⟨m,Nat.lt_succ_self m,_,_,_,S3,hi⟩
     | exit id =>
      simp only [Option.some.injEq,Prod.mk.injEq] at hi
      obtain ⟨rfl,rfl,rfl⟩:=hi
      exact hQ a2 w2 _ _ S3 (by simp [noLoop])
     | ret =>
      simp only [Option.some.injEq,Prod.mk.injEq] at hi
      obtain ⟨rfl,rfl,rfl⟩:=hi
      exact hQ a2 w2 _ _ S3 (by simp [noLoop])
  subst hc
  simp only [evC] at he
  obtain ⟨⟨t0,H0⟩,h0,he⟩:=Option.bind_eq_some_iff.1 he
  obtain ⟨⟨exr,tr⟩,hit,he⟩:=Option.map_eq_some_iff.1 he
  simp only [Prod.mk.injEq] at he
  obtain ⟨rfl,rfl,rfl⟩:=he
  refine wp_loop_n (fun n a w=>∃ ts,LiveSt fid w0 A0 Cb nt live a w ts∧iter _ n ts=some (exr,tr)) rounds ⟨t0,live_of S h0,hit⟩ ?_
  rintro n a1 w1 ⟨ts,hl,hi⟩
  obtain ⟨A1,ι1,S1⟩:=of_live hl
  cases n with
  | zero=>simp [iter] at hi
  | succ n =>
   simp only [iter] at hi
   cases hh:evC cl cx (unfL live ts []).1 (unfL live ts []).2 with
   | none=>rw [hh] at hi;simp at hi
   | some q =>
    obtain ⟨ex1,E1,H1⟩:=q
    rw [hh] at hi
    simp only at hi
    cases hf:foldL live E1 H1 with
    | none=>rw [hf] at hi;simp at hi
    | some p =>
     obtain ⟨ts1,H2⟩:=p
     rw [hf] at hi
     simp only [Option.map_some] at hi
     refine ihx hx S1 hh fun a2 w2 A2 ι2 S2 _=>?_
     have hl2:=live_of S2 hf
     cases ex1 with
     | nrm=>exact ⟨n,Nat.lt_succ_self n,ts1,hl2,hi⟩
     | exit id =>
      simp only [Option.some.injEq,Prod.mk.injEq] at hi
      obtain ⟨rfl,rfl⟩:=hi
      obtain ⟨A3,ι3,S3⟩:=of_live hl2
      exact hQ a2 w2 A3 ι3 S3 (by simp [noLoop])
     | ret =>
      simp only [Option.some.injEq,Prod.mk.injEq] at hi
      obtain ⟨rfl,rfl⟩:=hi
      obtain ⟨A3,ι3,S3⟩:=of_live hl2
      exact hQ a2 w2 A3 ι3 S3 (by simp [noLoop])
 | exit id =>
  intro c Q w A ι a E E' H H' ex hc S he hQ
  simp only [compC,Option.some.injEq] at hc;subst hc
  simp only [evC,Option.some.injEq,Prod.mk.injEq] at he
  obtain ⟨rfl,rfl,rfl⟩:=he
  exact wp_exit (hQ a w A ι S fun _=>Ext.refl _)
 | ret =>
  intro c Q w A ι a E E' H H' ex hc S he hQ
  simp only [compC,Option.some.injEq] at hc;subst hc
  simp only [evC,Option.some.injEq,Prod.mk.injEq] at he
  obtain ⟨rfl,rfl,rfl⟩:=he
  exact wp_ret (hQ a w A ι S fun _=>Ext.refl _)
 | _=>intro c Q w A ι a E E' H H' ex hc;simp [compC] at hc
end
end Lg
namespace Lg
open Go
set_option linter.unusedVariables false
set_option linter.unusedSimpArgs false
set_option linter.unusedSectionVars false
section
variable {P:Program} {num:FuncId→Option Nat} {fid:Nat→FuncId}
 {w0:World} {A0:Av} {Cb:Nat→Prop} {nt:Nt} {w:World} {A:Av} {ι:Io} {a:Act} {E E':Env} {H H':List Ob} {own:Nat→List Nat} {cl:Cl}
theorem run_loadVar_part {t:TypeId} {ag:Bool} {n:Nat} {ad:Addr} {vs:List Value} {cs:List D} {d:D} (h1:aggT P t=some ag) (h2:sizeT P t=some n) (hv:LVs fid w A ι true vs cs []) (hr:∀ (k:Nat) (u:Value),vs[k]? = some u→w.cell? (ad.add k)=some u)
  (hp:part ag n cs=some d):∃ v,(loadVar t ad).run P w = .ok v w∧LV fid w A ι true v d []:=by
 unfold loadVar
 simp only [Sem.run_bind,run_isAgg h1,Result.andThen_ok]
 unfold part at hp
 cases ag with
 | true =>
  simp only [if_true] at hp ⊢
  split at hp
  ·rename_i hle
   injection hp with hp;subst hp
   refine ⟨.agg ⟨vs.take n⟩,?_, .agg _ _ [] (hv.take n)⟩
   have hlen:(vs.take n).length=n:=by rw [List.length_take,hv.length_eq];omega
   have:=run_loadCells_list (P:=P) w ad (vs.take n) (fun j v hj=>hr j v (take_get hj))
   rw [hlen] at this
   simp only [Sem.run_bind,run_sizeT h2,Result.andThen_ok,this,Sem.run_pure]
  ·cases hp
 | false =>
  simp only [Bool.false_eq_true,if_false] at hp ⊢
  split at hp
  ·rename_i c cs'
   injection hp with hp;subst hp
   obtain ⟨v,hv1,hv2⟩:=hv.get (k:=0) (d:=c) rfl
   refine ⟨v,?_,hv2⟩
   have:=hr 0 v hv1
   have ha:ad.add 0=ad:=by unfold Addr.add;simp
   rw [ha] at this
   simp [run_load,this]
  ·cases hp
def resM (tmps:Array Value):ResultVar→Sem Value
 | .tmp t=>pure (tmps.getD t undef)
 | .cell a t=>do loadVar t (←asAddr (tmps.getD a undef))
theorem res_sound (S:St fid w0 A0 Cb nt w A ι a E H no):∀ (rs:List ResultVar) (ms:List Mode) (srs:List (SRes×Mode)) (ds:List D),compRes P rs ms=some srs→resDs E H srs=some ds →
  ∃ vs:List Value,(rs.mapM (resM a.tmps)).run P w = .ok vs w∧LVs fid w A ι true vs ds []
 | [],ms,srs,ds,hc,hd=>by
  simp only [compRes,Option.some.injEq] at hc;subst hc
  simp only [resDs,Option.some.injEq] at hd;subst hd
  exact ⟨[],by simp, .nil⟩
 | r :: rs,ms,srs,ds,hc,hd=>by
  simp only [compRes] at hc
  obtain ⟨x,hx,hc⟩:=Option.bind_eq_some_iff.1 hc
  obtain ⟨l,hl,rfl⟩:=Option.map_eq_some_iff.1 hc
  simp only [resDs] at hd
  obtain ⟨d,hd1,hd⟩:=Option.bind_eq_some_iff.1 hd
  obtain ⟨ds',hd2,rfl⟩:=Option.map_eq_some_iff.1 hd
  obtain ⟨vs,hv1,hv2⟩:=res_sound S rs ms.tail l ds' hl hd2
  have one:∃ v,(resM a.tmps r).run P w = .ok v w∧LV fid w A ι true v d []:=by
   cases r with
   | tmp t =>
    simp only [compRes1,Option.some.injEq] at hx;subst hx
    simp only [resD,Option.some.injEq] at hd1;subst hd1
    exact ⟨_,rfl,S.lv t⟩
   | cell t ty =>
    simp only [compRes1] at hx
    obtain ⟨ag,hag,hx⟩:=Option.bind_eq_some_iff.1 hx
    obtain ⟨n,hn,rfl⟩:=Option.map_eq_some_iff.1 hx
    simp only [resD] at hd1
    obtain ⟨cs,hcs,hp⟩:=Option.bind_eq_some_iff.1 hd1
    obtain ⟨ad,vs',e1,l1,hr⟩:=cellsAt_lv S.ob (S.lv t) hcs
    obtain ⟨v,hv,lv⟩:=run_loadVar_part (P:=P) hag hn l1 hr hp
    refine ⟨v,?_,lv⟩
    simp only [resM,e1,asAddr,Sem.run_bind,Sem.run_pure,Result.andThen_ok,hv]
  obtain ⟨v,hr,lv⟩:=one
  exact ⟨v :: vs,by simp only [List.mapM_cons,Sem.run_bind,hr,hv1,Result.andThen_ok,Sem.run_pure],LVs.cons' lv hv2⟩
def oneV:List Value→Value
 | [v]=>v
 | vs=> .tuple ⟨vs⟩
theorem run_results {fn:Func} {tmps:Array Value} {vs:List Value} (h:(fn.results.toList.mapM (resM tmps)).run P w = .ok vs w):(results fn tmps).run P w = .ok (oneV vs) w:=by
 have e:results fn tmps=(fn.results.mapM (resM tmps) >>= fun vs=>pure (if h:vs.size=1 then vs[0] else .tuple vs)):=by
  unfold results
  have:(fun x:ResultVar=>(match x with | .tmp t=>(pure (tmps.getD t undef):Sem Value) | .cell a t=>do loadVar t (←asAddr (tmps.getD a undef))))=resM tmps:=by
   funext x;cases x<;>rfl
  rw [←this]
  rfl
 rw [e,Array.mapM_eq_mapM_toList,Sem.run_bind]
 simp only [Sem.run_map,h,Result.andThen_ok,Sem.run_pure]
 cases vs with
 | nil=>rfl
 | cons v vs =>
  cases vs with
  | nil=>rfl
  | cons u vs=>simp [oneV]
theorem foldR_sound:∀ (rs:List (SRes×Mode)) (vs:List Value) (ds:List D) {A:Av} {H:List Ob} {ts:List D} {H':List Ob},St fid w0 A0 Cb nt w A ι a E H no→LVs fid w A ι true vs ds []→foldR rs ds H=some (ts,H') →
  ∃ A1 O,(∀ b off,A1 b off→A b off)∧Spare ι H A A1∧LVs fid w A1 (fun _=>none) false vs ts O∧O.Nodup∧(∃ I,Mix H H' I)∧Taken ι H H' O∧St fid w0 A0 Cb nt w A1 ι a E H' no
 | [],vs,[],A,H,ts,H',S,l,h=>by
  simp only [foldR,Option.some.injEq,Prod.mk.injEq] at h
  obtain ⟨rfl,rfl⟩:=h
  cases l
  exact ⟨A,[],fun _ _ h=>h,fun _ _ _ h=>h, .nil,List.nodup_nil,⟨[],(Gone.refl H).mix⟩,by intro b hb;simp at hb,S⟩
 | [],vs,_ :: _,A,H,ts,H',S,l,h=>by simp [foldR] at h
 | _ :: _,vs,[],A,H,ts,H',S,l,h=>by simp [foldR] at h
 | (t,m) :: rs,[],d :: ds,A,H,ts,H',S,l,h=>by cases l
 | (t,m) :: rs,v :: vs,d :: ds,A,H,ts,H',S,l,h=>by
  simp only [foldR] at h
  obtain ⟨⟨d1,H1⟩,h1,h⟩:=Option.bind_eq_some_iff.1 h
  obtain ⟨⟨ts2,H2⟩,h2,h⟩:=Option.map_eq_some_iff.1 h
  simp only [Prod.mk.injEq] at h
  obtain ⟨rfl,rfl⟩:=h
  obtain ⟨A1,O1,a1,s1,l1,n1,⟨I1,m1⟩,t1,S1⟩:=foldM_sound S l.uncons.1 h1
  have lrest:LVs fid w A1 ι true vs ds []:=by
   have:=LV.narrowO a1 (LV.agg vs ds [] l.uncons.2) (by simp)
   obtain ⟨vs',e,l'⟩:=this.inv_agg
   simp only [Value.agg.injEq,Array.mk.injEq] at e
   subst e;exact l'
  obtain ⟨A2,O2,a2,s2,l2,n2,⟨I2,m2⟩,t2,S2⟩:=foldR_sound rs vs ds S1 lrest h2
  have hdead:∀ b,b∈O1→∀ i,alive (obAt H1 i)=true→ι i≠some (some b):=by
   intro b hb i ha hi
   obtain ⟨j,e1,e2,e3⟩:=t1 b hb
   have:=S.inj j i b e2 (m1.alive ha) e1 hi
   subst this
   rw [e3] at ha;cases ha
  refine ⟨A2,O1++O2,fun b off h=>a1 b off (a2 b off h),fun b hb off hA=>s2 b (fun i ha=>hb i (m1.alive ha)) off (s1 b hb off hA),?_,?_,⟨_,m1.trans m2⟩,?_,S2⟩
  ·exact .cons _ d1 O1 _ ts2 O2 (l1.narrowO a2 (fun b hb off hA=>s2 b (hdead b hb) off hA)) l2
  ·refine List.nodup_append.2 ⟨n1,n2,fun x hx y hy e=>?_⟩
   subst e
   obtain ⟨j,e1,e2,e3⟩:=t2 x hy
   exact hdead x hx j e2 e1
  ·intro b hb
   rcases List.mem_append.1 hb with hb | hb
   ·obtain ⟨i,f1,f2,f3⟩:=t1 b hb
    refine ⟨i,f1,f2,?_⟩
    rcases m2.2 i with e | e
    ·exact e
    ·rw [e,f3];by_cases hq:i∈I2<;>simp [hq,frz]
   ·obtain ⟨i,f1,f2,f3⟩:=t2 b hb
    exact ⟨i,f1,m1.alive f2,f3⟩
theorem outs_sound {fx:List Nat}:∀ (k:Nat) (as:List D) (vs:List Value) {H:List Ob} {os:List D} {H':List Ob},vs.length=as.length→(∀ t,lk E t=lk E t∧LV fid w A ι true (a.tmps.getD t undef) (lk E t) [])→(∀ i,ObjOK fid w A ι (ι i) (obAt H i))→Inj ι H →
  (∀ i v,vs[i]? = some v→fx.contains (k+i)=true→a.tmps.getD (k+i) undef=v)→outs fx E k as H=some (os,H') →
  ∃ O,LVs fid w A (fun _=>none) false (ptVals vs as) os O∧O.Nodup∧Gone H H'∧Taken ι H H' O
 | k,[],[],H,os,H',_,_,_,_,_,h=>by
  simp only [outs,Option.some.injEq,Prod.mk.injEq] at h
  obtain ⟨rfl,rfl⟩:=h
  exact ⟨[], .nil,List.nodup_nil,Gone.refl _,by intro b hb;simp at hb⟩
 | k,[],_ :: _,H,os,H',hl,_,_,_,_,h=>by simp at hl
 | k,_ :: _,[],H,os,H',hl,_,_,_,_,h=>by simp at hl
 | k,d :: as,v :: vs,H,os,H',hl,hlv,hob,hi,hv,h=>by
  have hv':∀ i u,vs[i]? = some u→fx.contains (k+1+i)=true→a.tmps.getD (k+1+i) undef=u:=by
   intro i u hu hc
   have:=hv (i+1) u (by simpa using hu) (by rw [show k+(i+1)=k+1+i by omega];exact hc)
   rwa [show k+(i+1)=k+1+i by omega] at this
  by_cases hb:isBx d=true
  ·cases d<;>simp [isBx] at hb
   rename_i ds
   simp only [outs] at h
   split at h
   ·rename_i hc
    obtain ⟨⟨d1,H1⟩,h1,h⟩:=Option.bind_eq_some_iff.1 h
    obtain ⟨⟨os2,H2⟩,h2,h⟩:=Option.map_eq_some_iff.1 h
    simp only [Prod.mk.injEq] at h
    obtain ⟨rfl,rfl⟩:=h
    have hval:=hv 0 v rfl (by simpa using hc)
    simp only [Nat.add_zero] at hval
    obtain ⟨O1,l1,n1,g1,t1⟩:=fld_sound (ι':=fun _=>none) depth _ _ d1 H H1 (hlv k).2 hob hi h1
    rw [hval] at l1
    obtain ⟨O2,l2,n2,g2,t2⟩:=outs_sound (k+1) as vs (by simpa using hl) hlv (g1.ob hob) (g1.inj hi) hv' h2
    refine ⟨O1++O2,?_,List.nodup_append.2 ⟨n1,n2,fun x hx y hy e=>Taken.apart hi g1 t1 t2 x hx (e▸hy)⟩,g1.trans g2,t1.app g1 g2 t2⟩
    simp only [ptVals,isBx,if_true]
    exact .cons v d1 O1 _ os2 O2 l1 l2
   ·cases h
  ·have hb':isBx d=false:=by simpa using hb
   have he:outs fx E k (d :: as) H=outs fx E (k+1) as H:=by cases d<;>simp [isBx] at hb'<;>rfl
   rw [he] at h
   simp only [ptVals,hb',Bool.false_eq_true,if_false]
   exact outs_sound (k+1) as vs (by simpa using hl) hlv hob hi hv' h
theorem envFrom_mem:∀ (k:Nat) (ds:List D) (p:Nat×D),p∈envFrom k ds→∃ i,p.1=k+i∧ds[i]? = some p.2
 | k,[],p,h=>by simp [envFrom] at h
 | k,d :: ds,p,h=>by
  simp only [envFrom,List.mem_cons] at h
  rcases h with rfl | h
  ·exact ⟨0,rfl,rfl⟩
  ·obtain ⟨i,e1,e2⟩:=envFrom_mem (k+1) ds p h
   exact ⟨i+1,by omega,by simpa using e2⟩
end
end Lg
namespace Lg
open Go
set_option linter.unusedVariables false
set_option linter.unusedSimpArgs false
set_option linter.unusedSectionVars false
section
variable {P:Program} {num:FuncId→Option Nat} {fid:Nat→FuncId}
theorem ended_some {o:Option (Ex×Env×List Ob)} {r:Env×List Ob} (h:ended o=some r):∃ ex,o=some (ex,r.1,r.2)∧(ex = .nrm∨ex = .ret):=by
 unfold ended at h
 split at h
 ·injection h with h;subst h;exact ⟨_,rfl, .inl rfl⟩
 ·injection h with h;subst h;exact ⟨_,rfl, .inr rfl⟩
 ·cases h
theorem getD_args {vs:List Value} {n i:Nat} {v:Value} (h:vs[i]? = some v):((⟨vs⟩:Array Value)++Array.replicate n undef).getD i undef=v:=by
 have hlt:i<vs.length:=by
  rcases Nat.lt_or_ge i vs.length with h' | h'
  ·exact h'
  ·rw [List.getElem?_eq_none h'] at h;cases h
 rw [Array.getD_eq_getD_getElem?,Array.getElem?_append_left (by simpa using hlt)]
 simp [h]
theorem one_lv {w:World} {A:Av} {ι:Io} {r:Bool} {vs:List Value} {ds:List D} {O:List Nat} (h:LVs fid w A ι r vs ds O):LV fid w A ι r (oneV vs) (one ds) O:=by
 cases h with
 | nil=>exact .tup [] [] [] .nil
 | cons v d O1 vs ds O2 h hs =>
  cases hs with
  | nil=>simpa [oneV,one] using h
  | cons v2 d2 O3 vs ds O4 h2 hs2=>exact .tup _ _ _ (.cons v d O1 _ _ _ h (.cons v2 d2 O3 vs ds O4 h2 hs2))
theorem evFun_sound {cl:Cl} (hnum:∀ f g,num f=some g→fid g=f) (hr:ClR P fid cl.r) (hcg:CongrR cl.r) (hcw:ClW P fid cl.w) (hmix:P.follows .mixedOrders=true) {ann:Ann} {f:FuncId} {s:SFun}
  (hc:compF P num ann f=some s):SoundFn P fid f (evFun cl s):=by
 unfold compF at hc
 obtain ⟨fn,hf,hc⟩:=Option.bind_eq_some_iff.1 hc
 obtain ⟨c,hb,hc⟩:=Option.bind_eq_some_iff.1 hc
 split at hc
 ·rename_i hle
  obtain ⟨body,hbody,hc⟩:=Option.bind_eq_some_iff.1 hc
  obtain ⟨res,hres,hs⟩:=Option.map_eq_some_iff.1 hc
  subst hs
  intro ds r outs' h w A vs O l nd hal
  unfold evFun at h
  split at h
  ·rename_i hlen
   simp only at hlen h
   obtain ⟨⟨E1,H1⟩,he,h⟩:=Option.bind_eq_some_iff.1 h
   obtain ⟨rd,hrd,h⟩:=Option.bind_eq_some_iff.1 h
   obtain ⟨⟨fr,H2⟩,hfr,h⟩:=Option.bind_eq_some_iff.1 h
   obtain ⟨⟨os,H3⟩,hos,h⟩:=Option.map_eq_some_iff.1 h
   simp only [Prod.mk.injEq] at h
   obtain ⟨rfl,rfl⟩:=h
   obtain ⟨ex,hev,hex⟩:=ended_some he
   have hvl:vs.length=ds.length:=l.length_eq
   refine calls_of_wp hf hb ?_
   let a0:Act:={tmps:=(⟨vs⟩:Array Value)++Array.replicate (fn.ntmps-vs.length) undef,defers:=[]}
   let dk:Nat→Bool:=fun d=>decide (d<fn.ntmps) && !(ann.fx.contains d)
   let nt:Nt:=(dk,fun t=>a0.tmps.getD t undef)
   let Cb:Nat→Prop:=fun b=>b∈O∨w.heap.size≤b
   have S0:St fid w A Cb nt w A (fun _=>none) a0 [] [] no:=by
    refine ⟨Keep.refl _ _ _,hal,fun b h=> .inr h,fun d hd=>?_,fun t _=>rfl,rfl,fun t=> .un _,fun i=>by rw [obAt_ge (by simp)];trivial,⟨fun _ _=>rfl,by simp,by simp,by simp [no],by simp,by simp [no],by simp [no]⟩⟩
    have:d<fn.ntmps:=by
     have:dk d=true:=hd
     simp only [dk,Bool.and_eq_true,decide_eq_true_eq] at this
     exact this.1
    show d<((⟨vs⟩:Array Value)++Array.replicate (fn.ntmps-vs.length) undef).size
    simp;omega
   have F0:Free Cb (fun _=>none) [] no O:=⟨nd,fun b hb=> .inl hb,by simp [no],by intro b hb i ha;rw [obAt_ge (by simp)] at ha;cases ha⟩
   obtain ⟨ι1,N,l1,S1⟩:=S0.absorb (r:=true) F0 (LV.agg vs ds O l.weak)
   have l1':LV fid w A ι1 true (.agg ⟨vs⟩) (.agg (unfs ds []).1) []:=l1
   have S1':St fid w A Cb nt w A ι1 a0 [] (unfs ds []).2 no:=S1
   obtain ⟨vs',e0,l2⟩:=l1'.inv_agg
   simp only [Value.agg.injEq,Array.mk.injEq] at e0
   subst e0
   have S2:St fid w A Cb nt w A ι1 a0 (envFrom 0 (unfs ds []).1) (unfs ds []).2 no:=by
    refine S1'.env fun p hp=>?_
    obtain ⟨i,e1,e2⟩:=envFrom_mem 0 _ p hp
    obtain ⟨v,hv,lv⟩:=l2.get e2
    have:a0.tmps.getD p.1 undef=v:=by rw [e1,Nat.zero_add];exact getD_args hv
    rw [this];exact lv
   refine evC_sound (nt:=nt) hnum hr hcg hcw hmix c hbody S2 hev fun a' w' A' ι' S' _=>?_
   have main:a'.defers=[]∧∃ v,(results fn a'.tmps).run P w' = .ok v w'∧∃ v' A' O',Ending.returned v = .returned v'∧Keep w w' A A' (fun b=>b∈O)∧LVs fid w' A' (fun _=>none) false (v' :: ptVals vs ds) (one fr :: os) O'∧O'.Nodup∧∀ b,b∈O'→b∈O∨w.heap.size≤b:=by
    obtain ⟨rv,hrv,lrv⟩:=res_sound S' _ _ _ _ hres hrd
    obtain ⟨A2,O1,a2,s2,lf,n1,⟨I,M⟩,t1,S3⟩:=foldR_sound res rv rd S' lrv hfr
    have hlv3:∀ t,lk E1 t=lk E1 t∧LV fid w' A2 ι' true (a'.tmps.getD t undef) (lk E1 t) []:=fun t=>⟨rfl,S3.lv t⟩
    have hfix:∀ i v,vs[i]? = some v→ann.fx.contains (0+i)=true→a'.tmps.getD (0+i) undef=v:=by
     intro i v hv hc
     rw [Nat.zero_add] at hc ⊢
     have:=S3.fx i (by show (decide (i<fn.ntmps) && !(ann.fx.contains i))=false;rw [hc];simp)
     rw [this]
     exact getD_args hv
    obtain ⟨O2,lo,n2,g2,t2⟩:=outs_sound (fx:=ann.fx) 0 ds vs hvl hlv3 S3.ob S3.inj hfix hos
    have hdead:∀ b,b∈O1→b∉O2:=by
     intro b h1 h2
     obtain ⟨i,e1,e2,e3⟩:=t1 b h1
     obtain ⟨j,f1,f2,f3⟩:=t2 b h2
     have:=S'.inj i j b e2 (M.alive f2) e1 f1
     subst this
     rw [e3] at f2;cases f2
    refine ⟨S'.df,oneV rv,run_results hrv,oneV rv,A2,O1++O2,rfl,?_, .cons _ _ O1 _ _ O2 (one_lv lf) lo,List.nodup_append.2 ⟨n1,n2,fun x hx y hy e=>hdead x hx (e▸hy)⟩,?_⟩
    ·have K:=S3.kp
     refine ⟨K.os,K.tape,K.output,K.size,fun b hb hlt=>K.blk b (fun hx=>?_) hlt,K.cel,K.siz,K.a1,fun b off hb hlt hA=>K.a2 b off (fun hx=>?_) hlt hA⟩
     ·rcases hx with hx | hx
      ·exact hb hx
      ·omega
     ·rcases hx with hx | hx
      ·exact hb hx
      ·omega
    ·intro b hb
     rcases List.mem_append.1 hb with hb | hb
     ·obtain ⟨i,e1,e2,_⟩:=t1 b hb
      exact S'.sp.ib i b e2 e1
     ·obtain ⟨i,e1,e2,_⟩:=t2 b hb
      exact S3.sp.ib i b e2 e1
   rcases hex with rfl | rfl
   ·exact main
   ·exact main
  ·cases h
 ·cases hc
end
end Lg
namespace Lg
open Go
set_option linter.unusedVariables false
set_option linter.unusedSimpArgs false
set_option linter.unusedSectionVars false
section
variable {fid:Nat→FuncId} {w:World} {A:Av} {ι ι':Io}
theorem LV.has_both :
  (∀ {r:Bool} {v:Value} {d:D} {O:List Nat},LV fid w A ι r v d O→∀ i,i∈idsD d→∃ q,ι i=some q) ∧
  (∀ {r:Bool} {vs:List Value} {ds:List D} {O:List Nat},LVs fid w A ι r vs ds O→∀ i,i∈idsDs ds→∃ q,ι i=some q):=by
 have key:∀ {r:Bool} {v:Value} {d:D} {O:List Nat},LV fid w A ι r v d O→∀ i,i∈idsD d→∃ q,ι i=some q:=by
  intro r v d O h
  refine LV.rec (motive_1:=fun r v d O _=>∀ i,i∈idsD d→∃ q,ι i=some q) (motive_2:=fun r vs ds O _=>∀ i,i∈idsDs ds→∃ q,ι i=some q)
   ?_ ?_ ?_ ?_ ?_ ?_ ?_ ?_ ?_ ?_ ?_ ?_ ?_ ?_ ?_ ?_ ?_ ?_ ?_ h
  ·intro r v h i hi;simp [idsD] at hi
  ·intro r v i hi;simp [idsD] at hi
  ·intro r v h i hi;simp [idsD] at hi
  ·intro r i hi;simp [idsD] at hi
  ·intro r a i hi;simp [idsD] at hi
  ·intro r f vs ds O _ ih i hi;exact ih i (by simpa [idsD] using hi)
  ·intro r vs ds O _ ih i hi;exact ih i (by simpa [idsD] using hi)
  ·intro r vs ds O _ ih i hi;exact ih i (by simpa [idsD] using hi)
  ·intro r a n cap sz ds vs hn hc hu h h1 hr ih i hi;simp [idsD] at hi
  ·intro r ad ds vs h h1 hr ih i hi;simp [idsD] at hi
  ·intro r a wr sz i hi;simp [idsD] at hi
  ·intro r b cap sz wr ds vs cs T fr hb hf hu h h1 hr hc hs ha hA ih i hi;simp [idsD] at hi
  ·intro r b vs ds O T fr hb hf h h1 hA ih i hi;simp [idsD] at hi
  ·intro r b es c ks xs hb h1 h2 hA ih1 ih2 i hi;simp [idsD] at hi
  ·intro a id sz off len cap q hi h0 h1 i hi';simp [idsD] at hi';subst hi';exact ⟨q,hi⟩
  ·intro id sz e off b hi i hi';simp [idsD] at hi';subst hi';exact ⟨_,hi⟩
  ·intro id b hi i hi';simp [idsD] at hi';subst hi';exact ⟨_,hi⟩
  ·intro r i hi;simp [idsDs] at hi
  ·intro r v d O vs ds Os _ _ ih1 ih2 i hi
   simp only [idsDs,List.mem_append] at hi
   rcases hi with hi | hi
   ·exact ih1 i hi
   ·exact ih2 i hi
 refine ⟨key,?_⟩
 intro r vs
 induction vs with
 | nil=>intro ds O h i hi;cases h;simp [idsDs] at hi
 | cons v vs ih =>
  intro ds O h i hi
  cases h with
  | cons _ d O1 _ ds O2 h hs =>
   simp only [idsDs,List.mem_append] at hi
   rcases hi with hi | hi
   ·exact key h i hi
   ·exact ih hs i hi
end
theorem lt_bound:∀ {ns:List Nat} {i:Nat},i∈ns→i<bound ns
 | n :: ns,i,h=>by
  rcases List.mem_cons.1 h with e | e
  ·subst e;simp only [bound];exact Nat.lt_of_lt_of_le (Nat.lt_succ_self _) (Nat.le_max_left _ _)
  ·exact Nat.lt_of_lt_of_le (lt_bound e) (Nat.le_max_right _ _)
theorem obAt_deads (n i:Nat):obAt (deads n) i = .dead:=by
 unfold obAt deads
 rw [List.getElem?_replicate]
 split<;>rfl
end Lg
namespace Lg
open Go
set_option linter.unusedVariables false
set_option linter.unusedSimpArgs false
set_option linter.unusedSectionVars false
section
variable {P:Program} {num:FuncId→Option Nat} {fid:Nat→FuncId}
def TabOK (P:Program) (num:FuncId→Option Nat) (fid:Nat→FuncId) (Γ:Nat→Option Sem1):Prop :=
 ∀ f,(∀ m,(∃ fz,Γ f=some (.model fz m))∨Γ f=some (.modelO m)→Entered P (fid f)∧SoundFn P fid (fid f) m)∧(∀ s,Γ f=some (.inl s)→Entered P (fid f)∧∃ ann,compF P num ann (fid f)=some s)
theorem Obs.st {Cb:Nat→Prop} {w:World} {A:Av} {ι:Io} {H:List Ob} (B:Obs fid Cb w A ι H) (a:Act) (dk:Nat→Bool) (hd:a.defers=[]) (hdk:∀ d,dk d=true→d<a.tmps.size):St fid w A Cb (dk,fun t=>a.tmps.getD t undef) w A ι a [] H no :=
 ⟨Keep.refl _ _ _,B.al,B.cb,hdk,fun _ _=>rfl,hd,fun t=> .un _,B.ob,B.sp⟩
theorem inl_sound {cl:Cl} (hnum:∀ f g,num f=some g→fid g=f) (hr:ClR P fid cl.r) (hcg:CongrR cl.r) (hcw:ClW P fid cl.w) (hmix:P.follows .mixedOrders=true) {ann:Ann} {f:FuncId} {s:SFun} (hc:compF P num ann f=some s)
  {as:List D} {H:List Ob} {d:D} {H':List Ob} (h:evInl cl s as H=some (d,H')) {w:World} {A:Av} {ι:Io} {Cb:Nat→Prop} {vs:List Value} (B:Obs fid Cb w A ι H) (l:LVs fid w A ι true vs as []) :
  Calls P f ⟨vs⟩ w (fun e w'=>∃ v A' ι',e = .returned v∧Keep w w' A A' Cb∧Ext ι ι'∧Obs fid Cb w' A' ι' H'∧LV fid w' A' ι' true v d []):=by
 unfold compF at hc
 obtain ⟨fn,hf,hc⟩:=Option.bind_eq_some_iff.1 hc
 obtain ⟨c,hb,hc⟩:=Option.bind_eq_some_iff.1 hc
 split at hc
 ·rename_i hle
  obtain ⟨body,hbody,hc⟩:=Option.bind_eq_some_iff.1 hc
  obtain ⟨res,hres,hse⟩:=Option.map_eq_some_iff.1 hc
  subst hse
  unfold evInl at h
  split at h
  ·rename_i hh
   obtain ⟨hlen,hnl⟩:=hh
   simp only at hlen hnl h
   obtain ⟨⟨E1,H1⟩,he,h⟩:=Option.bind_eq_some_iff.1 h
   obtain ⟨rd,hrd,h⟩:=Option.map_eq_some_iff.1 h
   simp only [Prod.mk.injEq] at h
   obtain ⟨rfl,rfl⟩:=h
   obtain ⟨ex,hev,hex⟩:=ended_some he
   have hvl:vs.length=as.length:=l.length_eq
   refine calls_of_wp hf hb ?_
   let a0:Act:={tmps:=(⟨vs⟩:Array Value)++Array.replicate (fn.ntmps-vs.length) undef,defers:=[]}
   let dk:Nat→Bool:=fun d=>decide (d<fn.ntmps) && !(ann.fx.contains d)
   have S0:=B.st a0 dk rfl (fun d hd=>by
    have:d<fn.ntmps:=by
     simp only [dk,Bool.and_eq_true,decide_eq_true_eq] at hd
     exact hd.1
    show d<((⟨vs⟩:Array Value)++Array.replicate (fn.ntmps-vs.length) undef).size
    simp;omega)
   have S2:St fid w A Cb (dk,fun t=>a0.tmps.getD t undef) w A ι a0 (envFrom 0 as) H no:=by
    refine S0.env fun p hp=>?_
    obtain ⟨i,e1,e2⟩:=envFrom_mem 0 _ p hp
    obtain ⟨v,hv,lv⟩:=l.get e2
    have:a0.tmps.getD p.1 undef=v:=by rw [e1,Nat.zero_add];exact getD_args hv
    rw [this];exact lv
   refine evC_sound (nt:=(dk,fun t=>a0.tmps.getD t undef)) hnum hr hcg hcw hmix c hbody S2 hev fun a' w' A' ι' S' hx=>?_
   have main:a'.defers=[]∧∃ v,(results fn a'.tmps).run P w' = .ok v w'∧∃ v' A' ι',Ending.returned v = .returned v'∧Keep w w' A A' Cb∧Ext ι ι'∧Obs fid Cb w' A' ι' H1∧LV fid w' A' ι' true v' (one rd) []:=by
    obtain ⟨rv,hrv,lrv⟩:=res_sound S' _ _ _ _ hres hrd
    exact ⟨S'.df,oneV rv,run_results hrv,oneV rv,A',ι',rfl,S'.kp,hx hnl,S'.obs rfl,one_lv lrv⟩
   rcases hex with rfl | rfl
   ·exact main
   ·exact main
  ·cases h
 ·cases hc
theorem inlQ_sound {cl:Cl} (hnum:∀ f g,num f=some g→fid g=f) (hr:ClR P fid cl.r) (hcg:CongrR cl.r) (hcw:ClW P fid cl.w) (hmix:P.follows .mixedOrders=true) {ann:Ann} {f:FuncId} {s:SFun} (hc:compF P num ann f=some s)
  {as:List D} {H:List Ob} {d:D} (h:evInlQ cl s as=some d) {w:World} {A:Av} {ι:Io} {vs:List Value} {O eo:List Nat} (l:LVs fid w A ι true vs as O) (hal:∀ b off,A b off→b<w.heap.size) :
  Calls P f ⟨vs⟩ w (fun e w'=>∃ v A' O',e = .returned v∧XR fid w w' A A' ι H eo v d none O'):=by
 unfold evInlQ at h
 split at h
 case isFalse=>cases h
 rename_i hnt
 obtain ⟨⟨d',H1⟩,h1,h2⟩:=Option.bind_eq_some_iff.1 h
 simp only at h2
 split at h2
 case isFalse=>cases h2
 rename_i hq
 injection h2 with h2;subst h2
 simp only [Bool.and_eq_true,List.all_eq_true] at hq
 obtain ⟨hids,hntd⟩:=hq
 have hO:=l.noTree hnt
 subst hO
 let ι0:Io:=fun i=>if i<bound (idsDs as) then ι i else none
 have l0:LVs fid w A ι0 true vs as []:=LV.turn_both.2 l hnt fun i q hi e=>by
  show (if i<bound (idsDs as) then ι i else none)=some q
  rw [if_pos (lt_bound hi)];exact e
 have B:Obs fid (fun b=>w.heap.size≤b) w A ι0 (deads (bound (idsDs as))):=by
  refine ⟨hal,fun b h=>h,fun i=>by rw [obAt_deads];trivial,⟨fun i hi=>?_,fun i b ha=>?_,fun i j b ha=>?_,by simp,by simp,by simp,by simp⟩⟩
  ·simp only [deads,List.length_replicate] at hi
   show (if i<bound (idsDs as) then ι i else none)=none
   rw [if_neg (by omega)]
  ·rw [obAt_deads] at ha;cases ha
  ·rw [obAt_deads] at ha;cases ha
 refine Calls.mono (inl_sound hnum hr hcg hcw hmix hc h1 B l0) fun e w' he=>?_
 obtain ⟨v,A',ι',rfl,K,x,B',lv⟩:=he
 refine ⟨v,A',[],rfl,⟨?_,?_,(by intro i o e;cases e),List.nodup_nil,by simp⟩⟩
 ·exact ⟨K.os,K.tape,K.output,K.size,fun b _ hlt=>K.blk b (by omega) hlt,K.cel,K.siz,K.a1,fun b off _ hlt hA=>K.a2 b off (by omega) hlt hA⟩
 ·refine LV.turn_both.1 lv hntd fun i q hi e=>?_
  have hm:i∈idsDs as:=by
   have:=hids i hi
   simpa using this
  obtain ⟨q',hq'⟩:=LV.has_both.2 l i hm
  have h0:ι0 i=some q':=by
   show (if i<bound (idsDs as) then ι i else none)=some q'
   rw [if_pos (lt_bound hm)];exact hq'
  rw [x i q' h0] at e
  rw [hq',e]
theorem clOf_sound (hnum:∀ f g,num f=some g→fid g=f) (hmix:P.follows .mixedOrders=true) {Γ:Nat→Option Sem1} (hΓ:TabOK P num fid Γ):∀ n,ClR P fid (clOf Γ n).r∧ClW P fid (clOf Γ n).w:=by
 have RQ:∀ f fz m as H d,Γ f=some (.model fz m)→callQ fz m as H=some d→Entered P (fid f)∧∀ (w:World) (A:Av) (ι:Io) (vs:List Value) (O eo:List Nat),LVs fid w A ι true vs as O→(∀ i,ObjOK fid w A ι (ι i) (obAt H i))→(∀ b off,A b off→b<w.heap.size) →
   Calls P (fid f) ⟨vs⟩ w (fun e w'=>∃ v A' O',e = .returned v∧XR fid w w' A A' ι H eo v d none O'):=by
  intro f fz m as H d hm h
  obtain ⟨h1,h2⟩:=(hΓ f).1 m (.inl ⟨fz,hm⟩)
  exact ⟨h1,fun w A ι vs O eo l hob hal=>callQ_sound h2 l hob hal h⟩
 have M:∀ f fz m as H d H',Γ f=some (.model fz m)→callM fz m as H=some (d,H')→Entered P (fid f)∧∀ (w:World) (A:Av) (ι:Io) (Cb:Nat→Prop) (vs:List Value),Obs fid Cb w A ι H→LVs fid w A ι true vs as [] →
   Calls P (fid f) ⟨vs⟩ w (fun e w'=>∃ v A' ι',e = .returned v∧Keep w w' A A' Cb∧Ext ι ι'∧Obs fid Cb w' A' ι' H'∧LV fid w' A' ι' true v d []):=by
  intro f fz m as H d H' hm h
  obtain ⟨h1,h2⟩:=(hΓ f).1 m (.inl ⟨fz,hm⟩)
  refine ⟨h1,fun w A ι Cb vs B l=>?_⟩
  have S:=B.st {tmps:=#[],defers:=[]} (fun _=>false) rfl (by simp)
  refine Calls.mono (callM_sound h2 S l h) fun e w' he=>?_
  obtain ⟨v,A',ι',rfl,S',lv,x⟩:=he
  exact ⟨v,A',ι',rfl,S'.kp,x,S'.obs rfl,lv⟩
 have MO:∀ f m as H d H',Γ f=some (.modelO m)→callO m as H=some (d,H')→Entered P (fid f)∧∀ (w:World) (A:Av) (ι:Io) (Cb:Nat→Prop) (vs:List Value),Obs fid Cb w A ι H→LVs fid w A ι true vs as [] →
   Calls P (fid f) ⟨vs⟩ w (fun e w'=>∃ v A' ι',e = .returned v∧Keep w w' A A' Cb∧Ext ι ι'∧Obs fid Cb w' A' ι' H'∧LV fid w' A' ι' true v d []):=by
  intro f m as H d H' hm h
  obtain ⟨h1,h2⟩:=(hΓ f).1 m (.inr hm)
  refine ⟨h1,fun w A ι Cb vs B l=>?_⟩
  have S:=B.st {tmps:=#[],defers:=[]} (fun _=>false) rfl (by simp)
  refine Calls.mono (callO_sound h2 S l h) fun e w' he=>?_
  obtain ⟨v,A',ι',rfl,S',lv,x⟩:=he
  exact ⟨v,A',ι',rfl,S'.kp,x,S'.obs rfl,lv⟩
 intro n
 induction n with
 | zero =>
  constructor
  ·intro f as H d h
   simp only [clOf] at h
   split at h
   ·rename_i fz m hm
    exact RQ f fz m as H d hm h
   ·cases h
  ·intro f as H d H' h
   simp only [clOf] at h
   split at h
   ·rename_i fz m hm
    exact M f fz m as H d H' hm h
   ·rename_i m hm
    exact MO f m as H d H' hm h
   ·cases h
 | succ n ih =>
  constructor
  ·intro f as H d h
   simp only [clOf] at h
   split at h
   ·rename_i fz m hm
    exact RQ f fz m as H d hm h
   ·rename_i s hs
    obtain ⟨h1,ann,hc⟩:=(hΓ f).2 s hs
    exact ⟨h1,fun w A ι vs O eo l hob hal=>inlQ_sound hnum ih.1 (fun f as H H'=>clOf_congr) ih.2 hmix hc h l hal⟩
   ·cases h
  ·intro f as H d H' h
   simp only [clOf] at h
   split at h
   ·rename_i fz m hm
    exact M f fz m as H d H' hm h
   ·rename_i m hm
    exact MO f m as H d H' hm h
   ·rename_i s hs
    obtain ⟨h1,ann,hc⟩:=(hΓ f).2 s hs
    exact ⟨h1,fun w A ι Cb vs B l=>inl_sound hnum ih.1 (fun f as H H'=>clOf_congr) ih.2 hmix hc h B l⟩
   ·cases h
theorem fun_sound (hnum:∀ f g,num f=some g→fid g=f) (hmix:P.follows .mixedOrders=true) {Γ:Nat→Option Sem1} (hΓ:TabOK P num fid Γ) (n:Nat) {ann:Ann} {f:FuncId} {s:SFun} (hc:compF P num ann f=some s) :
  SoundFn P fid f (evFun (clOf Γ n) s) :=
 evFun_sound hnum (clOf_sound hnum hmix hΓ n).1 (fun f as H H'=>clOf_congr) (clOf_sound hnum hmix hΓ n).2 hmix hc
theorem SoundFn.congr {f:FuncId} {m m':List D→Option (D×List D)} (h:SoundFn P fid f m) (e:∀ ds r,m' ds=some r→m ds=some r):SoundFn P fid f m' :=
 fun ds r os hm=>h ds r os (e ds (r,os) hm)
end
end Lg
namespace Lg
open Go
set_option linter.unusedVariables false
set_option linter.unusedSimpArgs false
set_option linter.unusedSectionVars false
def nnD:D→Bool
 | .sl _ (d :: _)=>!(isNil d.cells)
 | _=>false
structure NFun where
 nargs:Nat
 ntmps:Nat
 fx:List Nat
 res:List (SRes×Mode)
 c1:SCode
 pre:SOper
 t:Nat
 x:SOpd
 rest:SCode
 u:SCode
 deriving Inhabited
def NFun.body (s:NFun) (b:Bool):SCode:= .seq s.c1 (.seq (.seq (.reg [s.pre,⟨some s.t, .mv (.k (.sc (.bool b))),none⟩]) s.rest) s.u)
def NFun.fn (s:NFun) (b:Bool):SFun:={nargs:=s.nargs,ntmps:=s.ntmps,fx:=s.fx,res:=s.res,body:=s.body b}
def isSlD:D→Bool
 | .sl .. | .osl .. | .sn | .rf ..=>true
 | _=>false
def atN (cl:Cl) (s:NFun) (E:Env) (H:List Ob):Option D :=
 match evC cl s.c1 E H with
 | some (.nrm,E1,H1)=>(stepsO cl [s.pre] E1 H1).map fun r=>ov r.1 s.x
 | _=>none
def emptyR (r:D×List D):Option (Bool×Nat):=match r with
 | (.osl w sz [],[])=>some (w,sz)
 | _=>none
def evNil (cl:Cl) (s:NFun) (args:List D):Option (D×List D) :=
 let u:=unfs args []
 match atN cl s (envFrom 0 u.1) u.2,evFun cl (s.fn false) args with
 | some d,some r=>if isSlD d then (if nnD d then some r else
   match evFun cl (s.fn true) args with
   | some r'=>match emptyR r,emptyR r' with
    | some a,some b=>if a.1=b.1∧a.2=b.2 then some r else none
    | _,_=>none
   | none=>none) else none
 | _,_=>none
section
variable {P:Program} {num:FuncId→Option Nat} {fid:Nat→FuncId}
theorem evFun_soundG {cl:Cl} {f:FuncId} {fn:Func} {c:Code} {ann:Ann} {res:List (SRes×Mode)} (sb:Bool→SFun) (poss:Bool→Env→List Ob→Prop) (hf:P.funcs[f]? = some fn) (hb:fn.body=some c) (hle:fn.params.size+fn.nfree≤fn.ntmps)
  (hres:compRes P fn.results.toList ann.res=some res)
  (hsb:∀ b,(sb b).nargs=fn.params.size+fn.nfree∧(sb b).fx=ann.fx∧(sb b).res=res)
  (HB:∀ {w0:World} {A0:Av} {Cb:Nat→Prop} {nt:Nt} {w:World} {A:Av} {ι:Io} {a:Act} {E:Env} {H:List Ob} {Q:Exit→Act→World→Prop},nt.1=(fun d=>decide (d<fn.ntmps) && !(ann.fx.contains d))→St fid w0 A0 Cb nt w A ι a E H no →
   (∃ b,poss b E H)→(∀ b,poss b E H→∃ ex E' H',evC cl (sb b).body E H=some (ex,E',H')∧∀ a' w' A' ι',St fid w0 A0 Cb nt w' A' ι' a' E' H' no→Q (exOf ex) a' w')→c.wp P Q a w)
  {ds:List D} {r:D} {outs':List D} (hex:∃ b,poss b (envFrom 0 (unfs ds []).1) (unfs ds []).2) (hall:∀ b,poss b (envFrom 0 (unfs ds []).1) (unfs ds []).2→evFun cl (sb b) ds=some (r,outs'))
  (w:World) (A:Av) (vs:List Value) (O:List Nat) (l:LVs fid w A (fun _=>none) false vs ds O) (nd:O.Nodup) (hal:∀ b off,A b off→b<w.heap.size) :
  Calls P f ⟨vs⟩ w (fun e w'=>∃ v A' O',e = .returned v∧Keep w w' A A' (fun b=>b∈O)∧LVs fid w' A' (fun _=>none) false (v :: ptVals vs ds) (r :: outs') O'∧O'.Nodup∧∀ b,b∈O'→b∈O∨w.heap.size≤b):=by
 have hvl:vs.length=ds.length:=l.length_eq
 refine calls_of_wp hf hb ?_
 let a0:Act:={tmps:=(⟨vs⟩:Array Value)++Array.replicate (fn.ntmps-vs.length) undef,defers:=[]}
 let dk:Nat→Bool:=fun d=>decide (d<fn.ntmps) && !(ann.fx.contains d)
 let nt:Nt:=(dk,fun t=>a0.tmps.getD t undef)
 let Cb:Nat→Prop:=fun b=>b∈O∨w.heap.size≤b
 have hlen:ds.length=fn.params.size+fn.nfree:=by
  obtain ⟨b,hb⟩:=hex
  have h:=hall b hb
  unfold evFun at h
  split at h
  ·rename_i h';rw [h',(hsb b).1]
  ·cases h
 have S0:St fid w A Cb nt w A (fun _=>none) a0 [] [] no:=by
  refine ⟨Keep.refl _ _ _,hal,fun b h=> .inr h,fun d hd=>?_,fun t _=>rfl,rfl,fun t=> .un _,fun i=>by rw [obAt_ge (by simp)];trivial,⟨fun _ _=>rfl,by simp,by simp,by simp [no],by simp,by simp [no],by simp [no]⟩⟩
  have:d<fn.ntmps:=by
   have:dk d=true:=hd
   simp only [dk,Bool.and_eq_true,decide_eq_true_eq] at this
   exact this.1
  show d<((⟨vs⟩:Array Value)++Array.replicate (fn.ntmps-vs.length) undef).size
  simp;omega
 have F0:Free Cb (fun _=>none) [] no O:=⟨nd,fun b hb=> .inl hb,by simp [no],by intro b hb i ha;rw [obAt_ge (by simp)] at ha;cases ha⟩
 obtain ⟨ι1,N,l1,S1⟩:=S0.absorb (r:=true) F0 (LV.agg vs ds O l.weak)
 have l1':LV fid w A ι1 true (.agg ⟨vs⟩) (.agg (unfs ds []).1) []:=l1
 have S1':St fid w A Cb nt w A ι1 a0 [] (unfs ds []).2 no:=S1
 obtain ⟨vs',e0,l2⟩:=l1'.inv_agg
 simp only [Value.agg.injEq,Array.mk.injEq] at e0
 subst e0
 have S2:St fid w A Cb nt w A ι1 a0 (envFrom 0 (unfs ds []).1) (unfs ds []).2 no:=by
  refine S1'.env fun p hp=>?_
  obtain ⟨i,e1,e2⟩:=envFrom_mem 0 _ p hp
  obtain ⟨v,hv,lv⟩:=l2.get e2
  have:a0.tmps.getD p.1 undef=v:=by rw [e1,Nat.zero_add];exact getD_args hv
  rw [this];exact lv
 refine HB (nt:=nt) rfl S2 hex fun b hb=>?_
 have h:=hall b hb
 obtain ⟨h1,h2,h3⟩:=hsb b
 unfold evFun at h
 split at h
 case isFalse=>cases h
 simp only at h
 obtain ⟨⟨E1,H1⟩,he,h⟩:=Option.bind_eq_some_iff.1 h
 obtain ⟨rd,hrd,h⟩:=Option.bind_eq_some_iff.1 h
 obtain ⟨⟨fr,H2⟩,hfr,h⟩:=Option.bind_eq_some_iff.1 h
 obtain ⟨⟨os,H3⟩,hos,h⟩:=Option.map_eq_some_iff.1 h
 simp only [Prod.mk.injEq] at h
 obtain ⟨rfl,rfl⟩:=h
 obtain ⟨ex,hev,hex⟩:=ended_some he
 rw [h3] at hrd hfr
 rw [h2] at hos
 refine ⟨ex,_,_,hev,fun a' w' A' ι' S'=>?_⟩
 have main:a'.defers=[]∧∃ v,(results fn a'.tmps).run P w' = .ok v w'∧∃ v' A' O',Ending.returned v = .returned v'∧Keep w w' A A' (fun b=>b∈O)∧LVs fid w' A' (fun _=>none) false (v' :: ptVals vs ds) (one fr :: os) O'∧O'.Nodup∧∀ b,b∈O'→b∈O∨w.heap.size≤b:=by
  obtain ⟨rv,hrv,lrv⟩:=res_sound S' _ _ _ _ hres hrd
  obtain ⟨A2,O1,a2,s2,lf,n1,⟨I,M⟩,t1,S3⟩:=foldR_sound res rv rd S' lrv hfr
  have hlv3:∀ t,lk E1 t=lk E1 t∧LV fid w' A2 ι' true (a'.tmps.getD t undef) (lk E1 t) []:=fun t=>⟨rfl,S3.lv t⟩
  have hfix:∀ i v,vs[i]? = some v→ann.fx.contains (0+i)=true→a'.tmps.getD (0+i) undef=v:=by
   intro i v hv hc
   rw [Nat.zero_add] at hc ⊢
   have:=S3.fx i (by show (decide (i<fn.ntmps) && !(ann.fx.contains i))=false;rw [hc];simp)
   rw [this]
   exact getD_args hv
  obtain ⟨O2,lo,n2,g2,t2⟩:=outs_sound (fx:=ann.fx) 0 ds vs hvl hlv3 S3.ob S3.inj hfix hos
  have hdead:∀ b,b∈O1→b∉O2:=by
   intro b h1 h2
   obtain ⟨i,e1,e2,e3⟩:=t1 b h1
   obtain ⟨j,f1,f2,f3⟩:=t2 b h2
   have:=S'.inj i j b e2 (M.alive f2) e1 f1
   subst this
   rw [e3] at f2;cases f2
  refine ⟨S'.df,oneV rv,run_results hrv,oneV rv,A2,O1++O2,rfl,?_, .cons _ _ O1 _ _ O2 (one_lv lf) lo,List.nodup_append.2 ⟨n1,n2,fun x hx y hy e=>hdead x hx (e▸hy)⟩,?_⟩
  ·have K:=S3.kp
   refine ⟨K.os,K.tape,K.output,K.size,fun b hb hlt=>K.blk b (fun hx=>?_) hlt,K.cel,K.siz,K.a1,fun b off hb hlt hA=>K.a2 b off (fun hx=>?_) hlt hA⟩
   ·rcases hx with hx | hx
    ·exact hb hx
    ·omega
   ·rcases hx with hx | hx
    ·exact hb hx
    ·omega
  ·intro b hb
   rcases List.mem_append.1 hb with hb | hb
   ·obtain ⟨i,e1,e2,_⟩:=t1 b hb
    exact S'.sp.ib i b e2 e1
   ·obtain ⟨i,e1,e2,_⟩:=t2 b hb
    exact S3.sp.ib i b e2 e1
 rcases hex with rfl | rfl
 ·exact main
 ·exact main
def nilAsk (P:Program) (num:FuncId→Option Nat) (nt:Nat→Bool) (ops:Array Oper):Option (SOper×Nat×SOpd) :=
 match ops.toList with
 | [o1,o2]=>match o2.op,o2.dst,o2.guard with
  | .binOp .eql T (.tmp x) (.const (.slice none 0 0)) _,some t,none=>match P.underlying T with
   | some (.slice _)=>if nt t then (compOper P num nt ops false o1).map fun s=>(s,t, .t x) else none
   | _=>none
  | _,_,_=>none
 | _=>none
def compN (P:Program) (num:FuncId→Option Nat) (ann:Ann) (f:FuncId):Option NFun :=
 (P.funcs[f]?).bind fun fn=>fn.body.bind fun c=>if fn.params.size+fn.nfree≤fn.ntmps then
   let nt:Nat→Bool:=fun d=>decide (d<fn.ntmps) && !(ann.fx.contains d)
   match c with
   | .seq x (.seq (.seq (.region _ ops false) y) z)=>(compC P num nt ann x).bind fun x'=>(nilAsk P num nt ops).bind fun q=>(compC P num nt ann y).bind fun y'=>(compC P num nt ann z).bind fun z' =>
     (compRes P fn.results.toList ann.res).map fun res=>{nargs:=fn.params.size+fn.nfree,ntmps:=fn.ntmps,fx:=ann.fx,res:=res,c1:=x',pre:=q.1,t:=q.2.1,x:=q.2.2,rest:=y',u:=z'}
   | _=>none
  else none
theorem slice_val {w:World} {A:Av} {ι:Io} {r:Bool} {v:Value} {d:D} {O:List Nat} (l:LV fid w A ι r v d O) (h:isSlD d=true):∃ a n cap,v = .slice a n cap∧(nnD d=true→a≠none):=by
 cases d<;>simp [isSlD] at h
 case sl sz ds =>
  obtain ⟨a,cap,vs,rfl,_,hc,hu,lv,h1,hr⟩:=l.inv_sl
  refine ⟨a,_,cap,rfl,fun hn=>?_⟩
  cases ds with
  | nil=>simp [nnD] at hn
  | cons d ds =>
   have hlen:=lv.length_eq
   have:d.cells≠[]:=by
    intro e;simp [nnD,e,isNil] at hn
   have:vs≠[]:=by
    rintro rfl
    simp only [flat,List.flatMap_cons,List.length_nil,List.length_append] at hlen
    have:=List.length_pos_iff.2 this
    omega
   obtain ⟨v,vs,rfl⟩:=List.exists_cons_of_ne_nil this
   obtain ⟨ad,e,_⟩:=hr 0 v rfl
   rw [e];simp
 case osl wr sz ds =>
  cases l with
  | osln a=>exact ⟨a,0,0,rfl,by simp [nnD]⟩
  | osl b cap _ _ _ vs=>exact ⟨_,_,cap,rfl,by simp [nnD]⟩
 case sn=>obtain ⟨a,rfl,_⟩:=l.inv_sn;exact ⟨a,0,0,rfl,by simp [nnD]⟩
 case rf id sz off len=>obtain ⟨a,cap,q,rfl,_⟩:=l.inv_rf;exact ⟨a,_,cap,rfl,by simp [nnD]⟩
theorem run_eql_nil {t:TypeId} {e:TypeId} {w:World} (ht:P.underlying t=some (.slice e)) (a:Option Addr) (n cap:Nat):(Op.equal t (.slice a n cap) (.slice none 0 0)).run P w = .ok a.isNone w:=by
 have key:∀ k,(Op.equalIn (k+1) t (.slice a n cap) (.slice none 0 0)).run P w = .ok a.isNone w:=by
  intro k
  cases a with
  | none=>simp only [Op.equalIn,Sem.run_bind,run_underlying ht,Result.andThen_ok,Sem.run_pure]
  | some a=>simp only [Op.equalIn,Sem.run_bind,run_underlying ht,Result.andThen_ok,Sem.run_pure];rfl
 exact key 9999
theorem evNil_sound (hnum:∀ f g,num f=some g→fid g=f) (hmix:P.follows .mixedOrders=true) {Γ:Nat→Option Sem1} (hΓ:TabOK P num fid Γ) (n:Nat) {ann:Ann} {f:FuncId} {s:NFun}
  (hc:compN P num ann f=some s):SoundFn P fid f (evNil (clOf Γ n) s):=by
 have hr:=(clOf_sound hnum hmix hΓ n).1
 have hcw:=(clOf_sound hnum hmix hΓ n).2
 have hcg:CongrR (clOf Γ n).r:=fun f as H H'=>clOf_congr
 generalize clOf Γ n=cl at hr hcw hcg
 unfold compN at hc
 obtain ⟨fn,hf,hc⟩:=Option.bind_eq_some_iff.1 hc
 obtain ⟨c,hb,hc⟩:=Option.bind_eq_some_iff.1 hc
 split at hc
 case isFalse=>cases hc
 rename_i hle
 simp only at hc
 split at hc
 case h_2=>cases hc
 rename_i x id ops y z
 obtain ⟨x',hx,hc⟩:=Option.bind_eq_some_iff.1 hc
 obtain ⟨⟨pre,t,xo⟩,hq,hc⟩:=Option.bind_eq_some_iff.1 hc
 obtain ⟨y',hy,hc⟩:=Option.bind_eq_some_iff.1 hc
 obtain ⟨z',hz,hc⟩:=Option.bind_eq_some_iff.1 hc
 obtain ⟨res,hres,hs⟩:=Option.map_eq_some_iff.1 hc
 subst hs
 unfold nilAsk at hq
 split at hq
 case h_2=>cases hq
 rename_i o1 o2 hops
 split at hq
 case h_2=>cases hq
 rename_i T xt ty t' hop2 hdst hgu
 split at hq
 case h_2=>cases hq
 rename_i e hT
 split at hq
 case isFalse=>cases hq
 rename_i hnt
 obtain ⟨s1,hs1,hq⟩:=Option.map_eq_some_iff.1 hq
 simp only [Prod.mk.injEq] at hq
 obtain ⟨rfl,rfl,rfl⟩:=hq
 intro ds r outs' h w A vs O l nd hal
 unfold evNil at h
 simp only at h
 split at h
 case h_2=>cases h
 rename_i d r0 hat hev0
 split at h
 case isFalse=>cases h
 rename_i hsl
 let sN:NFun:=⟨fn.params.size+fn.nfree,fn.ntmps,ann.fx,res,x',s1,t', .t xt,y',z'⟩
 let poss:Bool→Env→List Ob→Prop:=fun b E H=>∃ d,atN cl sN E H=some d∧isSlD d=true∧(b=true→nnD d=false)
 refine evFun_soundG (fid:=fid) (cl:=cl) (ann:=ann) (res:=res) (NFun.fn sN) poss hf hb hle hres (fun b=>⟨rfl,rfl,rfl⟩) ?_ ⟨false,d,hat,hsl,by simp⟩ ?_ w A vs O l nd hal
 ·intro w0 A0 Cb nt w A ι a E H Q hnt' S hposs hall
  obtain ⟨b0,d,hat,hsl,_⟩:=hposs
  unfold atN at hat
  split at hat
  case h_2=>cases hat
  rename_i E1 H1 h1
  obtain ⟨⟨E2,H2⟩,h2,hd⟩:=Option.map_eq_some_iff.1 hat
  simp only [stepsO] at h2
  obtain ⟨⟨E3,H3⟩,h3,h4⟩:=Option.bind_eq_some_iff.1 h2
  simp only [Option.some.injEq,Prod.mk.injEq] at h4
  obtain ⟨rfl,rfl⟩:=h4
  simp only at hd
  refine wp_seq ?_
  rw [←hnt'] at hx hs1 hy hz hnt
  refine evC_sound hnum hr hcg hcw hmix x hx S h1 fun a1 w1 A1 ι1 S1 _=>?_
  refine wp_seq (wp_seq (wp_region ?_))
  have hsz:ops.size=2:=by have:=congrArg List.length hops;simpa using this
  have hg0:ops[0]? = some o1:=by
   have:ops.toList[0]? = some o1:=by rw [hops];rfl
   simpa using this
  have hg1:ops[1]? = some o2:=by
   have:ops.toList[1]? = some o2:=by rw [hops];rfl
   simpa using this
  rw [hsz,show List.range 2=[0,1] from rfl,wpOps_cons]
  refine wpOp_of hg0 (stepO_sound hr hcw hs1 S1 h3 hnum fun a2 w2 A2 ι2 S2 _=>?_)
  rw [wpOps_cons]
  refine wpOp_of hg1 ?_
  unfold wpO
  have hwanted:Region.wanted o2 (yielded ops a2.tmps)=true:=by simp [Region.wanted,hgu]
  rw [hwanted,if_pos rfl]
  refine .inl ?_
  have lx:=S2.lv xt
  have hd':lk E3 xt=d:=hd
  rw [hd'] at lx
  obtain ⟨ad,n,cap,hv,hnn⟩:=slice_val lx hsl
  have hrun:(execOp a2.eval o2).run P w2 = .ok (.value (.bool ad.isNone)) w2:=by
   simp only [execOp,hop2]
   refine run_v ?_
   have hve:a2.eval (.tmp xt) = .slice ad n cap:=hv
   rw [hve]
   rw [Sem.run_bind,run_guard_plain .eql T (.tmp xt) (.const (.slice none 0 0)) _ _ ⟨by simp,by simp⟩]
   simp only [Result.andThen_ok,Act.eval,binOp]
   rw [Sem.run_bind,run_eql_nil hT];rfl
  refine wp_value hrun ?_
  have X:XR fid w2 w2 A2 A2 ι2 H3 (eaten no none) (.bool ad.isNone) (.sc (.bool ad.isNone)) none []:=XR.val (.sc _ rfl)
  have S3:=S2.step X (dst:=o2.dst) (fun t ht=>by rw [hdst] at ht;injection ht with ht;subst ht;exact hnt)
  have hno:put1 (put1 no none []) o2.dst []=no:=by
   funext t;unfold put1 no;split<;>rfl
  rw [hno] at S3
  simp only [putH] at S3
  have hp:poss ad.isNone E H:=by
   refine ⟨d,?_,hsl,fun hb=>?_⟩
   ·unfold atN;simp only [h1,stepsO,h3,Option.bind_some,Option.map_some];exact congrArg some hd
   ·cases hh:nnD d with
    | false=>rfl
    | true=>have:=hnn hh;simp at hb;exact absurd hb this
  obtain ⟨ex,E',H',hev,hQ⟩:=hall _ hp
  simp only [NFun.fn,NFun.body,evC,h1] at hev
  have hreg:stepsO cl [s1,⟨some t', .mv (.k (.sc (.bool ad.isNone))),none⟩] E1 H1=some ((t', .sc (.bool ad.isNone)) :: E3,H3):=by
   show (stepO cl s1 E1 H1).bind _=_
   rw [h3]
   rfl
  rw [hreg] at hev
  simp only [Option.map_some] at hev
  rw [hdst] at S3
  have hE:putE (some t') (.sc (.bool ad.isNone)) (putE none .un E3)=(t', .sc (.bool ad.isNone)) :: E3:=rfl
  rw [hE] at S3
  show wpOps P ops _ [] _ _
  simp only [wpOps]
  show Exit.then _ _ .normal _ _
  simp only [Exit.then]
  cases hh:evC cl y' ((t', .sc (.bool ad.isNone)) :: E3) H3 with
  | none=>rw [hh] at hev;simp at hev
  | some q =>
   obtain ⟨ex1,E4,H4⟩:=q
   rw [hh] at hev
   rw [hdst]
   refine evC_sound hnum hr hcg hcw hmix y hy S3 hh fun a4 w4 A4 ι4 S4 _=>?_
   cases ex1 with
   | nrm =>
    simp only [exOf,Exit.then]
    refine evC_sound hnum hr hcg hcw hmix z hz S4 hev fun a5 w5 A5 ι5 S5 _=>hQ a5 w5 A5 ι5 S5
   | exit id =>
    simp only [Option.some.injEq,Prod.mk.injEq] at hev
    obtain ⟨rfl,rfl,rfl⟩:=hev
    exact hQ a4 w4 A4 ι4 S4
   | ret =>
    simp only [Option.some.injEq,Prod.mk.injEq] at hev
    obtain ⟨rfl,rfl,rfl⟩:=hev
    exact hQ a4 w4 A4 ι4 S4
 ·rintro b ⟨d',hat',_,hnn⟩
  rw [hat] at hat'
  injection hat' with hat';subst hat'
  split at h
  ·rename_i hn
   injection h with h
   have:b=false:=by
    cases b with
    | false=>rfl
    | true=>have:=hnn rfl;rw [hn] at this;cases this
   rw [this,hev0,h]
  ·split at h
   case h_2=>cases h
   rename_i r1 hev1
   split at h
   case h_2=>cases h
   rename_i p q hp hq
   split at h
   case isFalse=>cases h
   rename_i hpq
   injection h with h
   cases b with
   | false=>rw [hev0,h]
   | true =>
    rw [hev1,←h]
    unfold emptyR at hp hq
    split at hp
    case h_2=>cases hp
    split at hq
    case h_2=>cases hq
    injection hp with hp;injection hq with hq
    subst hp;subst hq
    obtain ⟨e1,e2⟩:=hpq
    simp only at e1 e2
    rw [e1,e2]
end
end Lg
namespace Lg
open Go Go.RowKit
set_option linter.unusedVariables false
set_option linter.unusedSimpArgs false
set_option linter.unusedSectionVars false
inductive RK where
 | fn (s:SFun)
 | inl (s:SFun)
 | own (s:SFun)
 | nil (s:NFun)
 | ext (m:List D→Option (D×List D))
structure Row where
 g:Nat
 f:FuncId
 fz:Bool
 ann:Ann
 k:RK
def findRow:List Row→Nat→Option Row
 | [],_=>none
 | r :: rs,g=>if r.g=g then some r else findRow rs g
def semR (M:Nat→Option Sem1) (r:Row):Sem1:=match r.k with
 | .fn s=> .model r.fz (evFun (clOf M 3) s)
 | .inl s=> .inl s
 | .own s=> .modelO (evFun (clOf M 3) s)
 | .nil s=> .model r.fz (evNil (clOf M 3) s)
 | .ext m=> .model r.fz m
def modsR (T:List Row):Nat→Nat→Option Sem1
 | 0,_=>none
 | k+1,g=>(findRow T g).map (semR (modsR T k))
def numOf (ns:List Nat):FuncId→Option Nat:=fun f=>ns[f]?
def fidOf (ns:List Nat) (g:Nat):FuncId:=ns.idxOf g
theorem num_fid {ns:List Nat} (hd:ns.Nodup):∀ f g,numOf ns f=some g→fidOf ns g=f:=by
 intro f g h
 obtain ⟨hl,e⟩:=List.getElem?_eq_some_iff.1 h
 unfold fidOf
 rw [←e]
 exact List.Nodup.idxOf_getElem hd f hl
section
variable {P:Program} {ns:List Nat} {T:List Row}
def entered (P:Program) (f:FuncId):Bool:=match P.funcs[f]? with
 | some fn=>!(fn.name == "runtime.NumGoroutine") && !fn.body.isNone
 | none=>false
theorem entered_of {f:FuncId} (h:entered P f=true):Entered P f:=by
 unfold entered at h
 split at h
 ·rename_i fn hf
  simp only [Bool.and_eq_true,Bool.not_eq_true'] at h
  exact ⟨fn,hf,h.1,h.2⟩
 ·cases h
def RowOK (P:Program) (ns:List Nat) (r:Row):Prop:=entered P r.f=true∧fidOf ns r.g=r.f∧match r.k with
 | .fn s=>compF P (numOf ns) r.ann r.f=some s
 | .inl s=>compF P (numOf ns) r.ann r.f=some s
 | .own s=>compF P (numOf ns) r.ann r.f=some s
 | .nil s=>compN P (numOf ns) r.ann r.f=some s
 | .ext m=>SoundFn P (fidOf ns) r.f m
theorem findRow_mem:∀ {T:List Row} {g:Nat} {r:Row},findRow T g=some r→r∈T∧r.g=g
 | [],g,r,h=>by simp [findRow] at h
 | x :: T,g,r,h=>by
  simp only [findRow] at h
  split at h
  ·rename_i e;injection h with h;subst h;exact ⟨by simp,e⟩
  ·obtain ⟨h1,h2⟩:=findRow_mem h;exact ⟨by simp [h1],h2⟩
theorem tab_sound (hd:ns.Nodup) (hmix:P.follows .mixedOrders=true) (hT:∀ r,r∈T→RowOK P ns r):∀ k,TabOK P (numOf ns) (fidOf ns) (modsR T k):=by
 intro k
 induction k with
 | zero=>intro f;exact ⟨fun m h=>by rcases h with ⟨fz,h⟩ | h<;>simp [modsR] at h,fun s h=>by simp [modsR] at h⟩
 | succ k ih =>
  intro f
  constructor
  ·intro m h
   have h':∃ r,findRow T f=some r∧((∃ fz,semR (modsR T k) r = .model fz m)∨semR (modsR T k) r = .modelO m):=by
    rcases h with ⟨fz,h⟩ | h
    ·simp only [modsR] at h
     obtain ⟨r,hr,h⟩:=Option.map_eq_some_iff.1 h
     exact ⟨r,hr, .inl ⟨fz,h⟩⟩
    ·simp only [modsR] at h
     obtain ⟨r,hr,h⟩:=Option.map_eq_some_iff.1 h
     exact ⟨r,hr, .inr h⟩
   obtain ⟨r,hr,h⟩:=h'
   obtain ⟨hm,hg⟩:=findRow_mem hr
   obtain ⟨h1,h2,h3⟩:=hT r hm
   rw [←hg,h2]
   refine ⟨entered_of h1,?_⟩
   unfold semR at h
   cases hk:r.k with
   | fn s =>
    rw [hk] at h h3
    simp only [Sem1.model.injEq,reduceCtorEq,or_false] at h
    obtain ⟨_,_,rfl⟩:=h
    exact fun_sound (num_fid hd) hmix ih 3 h3
   | inl s=>rw [hk] at h;simp at h
   | own s =>
    rw [hk] at h h3
    simp only [Sem1.modelO.injEq,reduceCtorEq,exists_const,false_or] at h
    subst h
    exact fun_sound (num_fid hd) hmix ih 3 h3
   | nil s =>
    rw [hk] at h h3
    simp only [Sem1.model.injEq,reduceCtorEq,or_false] at h
    obtain ⟨_,_,rfl⟩:=h
    exact evNil_sound (num_fid hd) hmix ih 3 h3
   | ext m' =>
    rw [hk] at h h3
    simp only [Sem1.model.injEq,reduceCtorEq,or_false] at h
    obtain ⟨_,_,rfl⟩:=h
    exact h3
  ·intro s h
   simp only [modsR] at h
   obtain ⟨r,hr,h⟩:=Option.map_eq_some_iff.1 h
   obtain ⟨hm,hg⟩:=findRow_mem hr
   obtain ⟨h1,h2,h3⟩:=hT r hm
   rw [←hg,h2]
   refine ⟨entered_of h1,?_⟩
   unfold semR at h
   cases hk:r.k with
   | inl s' =>
    rw [hk] at h h3
    simp only [Sem1.inl.injEq] at h
    subst h
    exact ⟨r.ann,h3⟩
   | _=>rw [hk] at h;cases h
end
section
variable {P:Program} {ns:List Nat} {g i:Nat} {fz:Bool} {a:Ann} {s:SFun} {z:NFun} {m:List D→Option (D×List D)}
def inPlace (P:Program) (ns:List Nat) (g i:Nat):Bool:=entered P i && decide (fidOf ns g=i)
theorem inPlace_ok (h:inPlace P ns g i=true):entered P i=true∧fidOf ns g=i:=by simpa [inPlace] using h
theorem okF (h:inPlace P ns g i=true) (k:compF P (numOf ns) a i=some s):RowOK P ns ⟨g,i,fz,a, .fn s⟩:=⟨(inPlace_ok h).1,(inPlace_ok h).2,k⟩
theorem okI (h:inPlace P ns g i=true) (k:compF P (numOf ns) a i=some s):RowOK P ns ⟨g,i,fz,a, .inl s⟩:=⟨(inPlace_ok h).1,(inPlace_ok h).2,k⟩
theorem okN (h:inPlace P ns g i=true) (k:compN P (numOf ns) a i=some z):RowOK P ns ⟨g,i,fz,a, .nil z⟩:=⟨(inPlace_ok h).1,(inPlace_ok h).2,k⟩
inductive AllK (Q:Row→Prop):List Row→Prop
 | nil:AllK Q []
 | cons {r:Row} {rs:List Row} (h:Q r) (hs:AllK Q rs):AllK Q (r :: rs)
theorem allK {Q:Row→Prop} {rs:List Row} (h:AllK Q rs):∀ r,r∈rs→Q r:=by
 induction h with
 | nil=>intro r hr;cases hr
 | cons h _ ih =>
  intro r hr
  rcases List.mem_cons.1 hr with rfl | hr
  ·exact h
  ·exact ih r hr
end
section
variable {T:List Row} {g i:Nat} {fz:Bool} {a:Ann} {s:SFun} {m:List D→Option (D×List D)} {z:NFun}
theorem cwF (h:findRow T g=some ⟨g,i,fz,a, .fn s⟩) (k n:Nat) (xs:List D) (H:List Ob):(clOf (modsR T (k+1)) n).w g xs H=callM fz (evFun (clOf (modsR T k) 3) s) xs H:=by cases n<;>simp [clOf,modsR,h,semR]
theorem crF (h:findRow T g=some ⟨g,i,fz,a, .fn s⟩) (k n:Nat) (xs:List D) (H:List Ob):(clOf (modsR T (k+1)) n).r g xs H=callQ fz (evFun (clOf (modsR T k) 3) s) xs H:=by cases n<;>simp [clOf,modsR,h,semR]
theorem cwN (h:findRow T g=some ⟨g,i,fz,a, .nil z⟩) (k n:Nat) (xs:List D) (H:List Ob):(clOf (modsR T (k+1)) n).w g xs H=callM fz (evNil (clOf (modsR T k) 3) z) xs H:=by cases n<;>simp [clOf,modsR,h,semR]
theorem cwI (h:findRow T g=some ⟨g,i,fz,a, .inl s⟩) (k n:Nat) (xs:List D) (H:List Ob):(clOf (modsR T (k+1)) (n+1)).w g xs H=evInl (clOf (modsR T (k+1)) n) s xs H:=by simp [clOf,modsR,h,semR]
theorem crI (h:findRow T g=some ⟨g,i,fz,a, .inl s⟩) (k n:Nat) (xs:List D) (H:List Ob):(clOf (modsR T (k+1)) (n+1)).r g xs H=evInlQ (clOf (modsR T (k+1)) n) s xs:=by simp [clOf,modsR,h,semR]
end
end Lg
