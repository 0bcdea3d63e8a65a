import Derived.Test.YtlpchliomdomdaaGreatPt1
namespace Lg
open Go
set_option linter.unusedVariables false
set_option linter.unusedSimpArgs false
set_option linter.unusedSectionVars false
structure New (fid:Nat→FuncId) (w:World) (A:Av) (ι ι':Io) (H H':List Ob) (O:List Nat):Prop where
 le:H.length≤H'.length
 pre:∀ i,i<H.length→H'[i]? = H[i]?
 io:∀ i,i<H.length→ι' i=ι i
 out:∀ i,H'.length≤i→ι' i=none
 ok:∀ i,H.length≤i→i<H'.length→ObjOK fid w A ι' (ι' i) (obAt H' i)∧alive (obAt H' i)=true
 blk:∀ i b,H.length≤i→ι' i=some (some b)→b∈O
 inj:∀ i j b,H.length≤i→H.length≤j→ι' i=some (some b)→ι' j=some (some b)→i=j
theorem New.refl {fid:Nat→FuncId} {w:World} {A:Av} {ι:Io} {H:List Ob} {O:List Nat} (h:∀ i,H.length≤i→ι i=none):New fid w A ι ι H H O :=
 ⟨Nat.le_refl _,fun _ _=>rfl,fun _ _=>rfl,h,fun i h1 h2=>by omega,fun i b h1 h2=>(by rw [h i h1] at h2;cases h2),fun i j b h1 _ h2 _=>(by rw [h i h1] at h2;cases h2)⟩
theorem New.ext {fid:Nat→FuncId} {w:World} {A:Av} {ι ι':Io} {H H':List Ob} {O:List Nat} (h:∀ i,H.length≤i→ι i=none) (N:New fid w A ι ι' H H' O):∀ i q,ι i=some q→ι' i=some q:=by
 intro i q hq
 rcases Nat.lt_or_ge i H.length with hl | hl
 ·rw [N.io i hl];exact hq
 ·rw [h i hl] at hq;cases hq
theorem New.trans {fid:Nat→FuncId} {w:World} {A:Av} {ι ι1 ι2:Io} {H H1 H2:List Ob} {O1 O2:List Nat} (h:∀ i,H.length≤i→ι i=none) (N1:New fid w A ι ι1 H H1 O1) (N2:New fid w A ι1 ι2 H1 H2 O2) (hd:∀ b,b∈O1→b∉O2) :
  New fid w A ι ι2 H H2 (O1++O2):=by
 have hext:=N2.ext N1.out
 refine ⟨Nat.le_trans N1.le N2.le,fun i hi=>?_,fun i hi=>?_,N2.out,fun i h1 h2=>?_,fun i b h1 h2=>?_,fun i j b h1 h2 h3 h4=>?_⟩
 ·rw [N2.pre i (Nat.lt_of_lt_of_le hi N1.le),N1.pre i hi]
 ·rw [N2.io i (Nat.lt_of_lt_of_le hi N1.le),N1.io i hi]
 ·rcases Nat.lt_or_ge i H1.length with hl | hl
  ·obtain ⟨a1,a2⟩:=N1.ok i h1 hl
   have:obAt H2 i=obAt H1 i:=by unfold obAt;rw [N2.pre i hl]
   rw [this,N2.io i hl]
   exact ⟨a1.keep (Keep.refl w A (fun _=>False)) hext (by simp),a2⟩
  ·exact N2.ok i hl h2
 ·rcases Nat.lt_or_ge i H1.length with hl | hl
  ·rw [N2.io i hl] at h2
   exact List.mem_append_left _ (N1.blk i b h1 h2)
  ·exact List.mem_append_right _ (N2.blk i b hl h2)
 ·rcases Nat.lt_or_ge i H1.length with hi | hi
  ·rw [N2.io i hi] at h3
   rcases Nat.lt_or_ge j H1.length with hj | hj
   ·rw [N2.io j hj] at h4
    exact N1.inj i j b h1 h2 h3 h4
   ·exact (hd b (N1.blk i b h1 h3) (N2.blk j b hj h4)).elim
  ·rcases Nat.lt_or_ge j H1.length with hj | hj
   ·rw [N2.io j hj] at h4
    exact (hd b (N1.blk j b h2 h4) (N2.blk i b hi h3)).elim
   ·exact N2.inj i j b hi hj h3 h4
theorem New.push {fid:Nat→FuncId} {w:World} {A:Av} {ι:Io} {H:List Ob} {o:Ob} {q:Option Nat} {O:List Nat} (h:∀ i,H.length≤i→ι i=none) (ha:alive o=true) (hok:ObjOK fid w A (fun i=>if i=H.length then some q else ι i) (some q) o)
  (hO:∀ b,q=some b→b∈O):New fid w A ι (fun i=>if i=H.length then some q else ι i) H (H++[o]) O:=by
 refine ⟨by simp,fun i hi=>by rw [List.getElem?_append_left hi],fun i hi=>by rw [if_neg (by omega)],fun i hi=>?_,fun i h1 h2=>?_,fun i b h1 h2=>?_,fun i j b h1 h2 h3 h4=>?_⟩
 ·simp at hi;rw [if_neg (by omega)];exact h i (by omega)
 ·simp at h2
  have:i=H.length:=by omega
  subst this
  rw [obAt_append,if_pos rfl,if_pos rfl]
  exact ⟨hok,ha⟩
 ·split at h2
  ·injection h2 with h2;exact hO b h2
  ·rw [h i h1] at h2;cases h2
 ·split at h3
  ·split at h4
   ·omega
   ·rw [h j h2] at h4;cases h4
  ·rw [h i h1] at h3;cases h3
theorem New.mono {fid:Nat→FuncId} {w:World} {A:Av} {ι ι':Io} {H H':List Ob} {O O':List Nat} (N:New fid w A ι ι' H H' O) (h:∀ b,b∈O→b∈O'):New fid w A ι ι' H H' O' :=
 ⟨N.le,N.pre,N.io,N.out,N.ok,fun i b h1 h2=>h b (N.blk i b h1 h2),N.inj⟩
section
variable {fid:Nat→FuncId} {w:World} {A:Av}
theorem unf_sound_both {ι0:Io} :
  (∀ {r:Bool} {v:Value} {d:D} {O:List Nat},LV fid w A ι0 r v d O→∀ (ι:Io) (H:List Ob),(∀ i q,ι0 i=some q→ι i=some q)→(∀ i,H.length≤i→ι i=none)→O.Nodup→∃ ι',New fid w A ι ι' H (unf d H).2 O∧LV fid w A ι' true v (unf d H).1 []):=by
 intro r v d O h
 refine LV.rec (motive_1:=fun r v d O _=>∀ (ι:Io) (H:List Ob),(∀ i q,ι0 i=some q→ι i=some q)→(∀ i,H.length≤i→ι i=none)→O.Nodup→∃ ι',New fid w A ι ι' H (unf d H).2 O∧LV fid w A ι' true v (unf d H).1 [])
  (motive_2:=fun r vs ds O _=>∀ (ι:Io) (H:List Ob),(∀ i q,ι0 i=some q→ι i=some q)→(∀ i,H.length≤i→ι i=none)→O.Nodup→∃ ι',New fid w A ι ι' H (unfs ds H).2 O∧LVs fid w A ι' true vs (unfs ds H).1 [])
  ?_ ?_ ?_ ?_ ?_ ?_ ?_ ?_ ?_ ?_ ?_ ?_ ?_ ?_ ?_ ?_ ?_ ?_ ?_ h
 ·intro r v h ι H hι hn hd;exact ⟨ι,New.refl hn, .sc v h⟩
 ·intro r v ι H hι hn hd;exact ⟨ι,New.refl hn, .un v⟩
 ·intro r v h ι H hι hn hd;exact ⟨ι,New.refl hn, .uk v h⟩
 ·intro r ι H hι hn hd;exact ⟨ι,New.refl hn, .nl⟩
 ·intro r a ι H hι hn hd;exact ⟨ι,New.refl hn, .sn a⟩
 ·intro r f vs ds O _ ih ι H hι hn hd
  obtain ⟨ι',N,l⟩:=ih ι H hι hn hd
  exact ⟨ι',N, .fn f vs _ [] l⟩
 ·intro r vs ds O _ ih ι H hι hn hd
  obtain ⟨ι',N,l⟩:=ih ι H hι hn hd
  exact ⟨ι',N, .agg vs _ [] l⟩
 ·intro r vs ds O _ ih ι H hι hn hd
  obtain ⟨ι',N,l⟩:=ih ι H hι hn hd
  exact ⟨ι',N, .tup vs _ [] l⟩
 ·intro r a n cap sz ds vs hn' hc hu h h1 hr ih ι H hι hn hd;exact ⟨ι,New.refl hn, .sl a n cap sz ds vs hn' hc hu h.weak h1 hr⟩
 ·intro r ad ds vs h h1 hr ih ι H hι hn hd;exact ⟨ι,New.refl hn, .ep ad ds vs h.weak h1 hr⟩
 ·intro r a wr sz ι H hι hn hd
  exact ⟨_,New.push (q:=none) hn rfl (.inl ⟨rfl,rfl⟩) (by simp), .rf a H.length sz 0 0 0 none (by simp) (by simp) (by simp)⟩
 ·intro r b cap sz wr ds vs cs T fr hb hf hu h h1 hr hc hs ha hA ih ι H hι hn hd
  refine ⟨_,New.push (q:=some b) (O:=[b]) hn rfl (.inr ⟨b,rfl,cs,T,fr,vs,hb,hf,hu,h.weak,h1,hr,ha,hA⟩) (by simp),?_⟩
  refine .rf _ H.length sz 0 ds.length cap (some b) (by simp) (by simp) ?_
  intro b' e
  injection e with e;subst e
  exact ⟨.inl (by simp),hc,cs,T,fr,hb,by simpa using hs⟩
 ·intro r b vs ds O T fr hb hf _ h1 hA ih ι H hι hn hd
  obtain ⟨hd1,hd2⟩:=List.nodup_cons.1 hd
  obtain ⟨ι',N,l⟩:=ih ι H hι hn hd2
  have hn':=N.out
  have hext:∀ i q,ι' i=some q→(fun i=>if i=(unfs ds H).2.length then some (some b) else ι' i) i=some q:=by
   intro i q hq
   show (if i=(unfs ds H).2.length then some (some b) else ι' i)=some q
   rw [if_neg (fun e=>by rw [e,hn' _ (Nat.le_refl _)] at hq;cases hq)];exact hq
  have l':LVs fid w A (fun i=>if i=(unfs ds H).2.length then some (some b) else ι' i) true vs (unfs ds H).1 []:=LVs.keep (Keep.refl w A (fun _=>False)) hext l (by simp)
  have N2:=New.push (fid:=fid) (w:=w) (A:=A) (H:=(unfs ds H).2) (o:= .bx (unfs ds H).1) (q:=some b) (O:=[b]) hn' rfl ⟨b,vs,T,fr,rfl,hb,hf,l',h1,hA⟩ (by simp)
  refine ⟨_,((N.trans hn N2 (fun x hx e=>by simp at e;subst e;exact hd1 hx)).mono (fun x hx=>by simp at hx ⊢;rcases hx with hx | hx;exact .inr hx;exact .inl hx)),?_⟩
  have:=LV.pt (fid:=fid) (w:=w) (A:=A) (ι:=fun i=>if i=(unfs ds H).2.length then some (some b) else ι' i) (unfs ds H).2.length 0 0 0 b (by simp)
  simpa [unf] using this
 ·intro r b es c ks xs hb hk hx hA ih1 ih2 ι H hι hn hd
  exact ⟨_,New.push (q:=some b) (O:=[b]) hn rfl ⟨b,es,c,rfl,hb,hk.weak,hx.weak,hA⟩ (by simp), .mp H.length b (by simp)⟩
 ·intro a id sz off len cap q hi h0 h1 ι H hι hn hd;exact ⟨ι,New.refl hn, .rf a id sz off len cap q (hι _ _ hi) h0 h1⟩
 ·intro id sz e off b hi ι H hι hn hd;exact ⟨ι,New.refl hn, .pt id sz e off b (hι _ _ hi)⟩
 ·intro id b hi ι H hι hn hd;exact ⟨ι,New.refl hn, .mp id b (hι _ _ hi)⟩
 ·intro r ι H hι hn hd;exact ⟨ι,New.refl hn, .nil⟩
 ·intro r v d O vs ds Os _ _ ih1 ih2 ι H hι hn hd
  obtain ⟨hd1,hd2,hd3⟩:=List.nodup_append.1 hd
  obtain ⟨ι1,N1,l1⟩:=ih1 ι H hι hn hd1
  have hext1:=N1.ext hn
  obtain ⟨ι2,N2,l2⟩:=ih2 ι1 (unf d H).2 (fun i q hq=>hext1 i q (hι i q hq)) N1.out hd2
  refine ⟨ι2,N1.trans hn N2 (fun b h1 h2=>hd3 b h1 b h2 rfl),?_⟩
  have l1':=LV.keep (Keep.refl w A (fun _=>False)) (N2.ext N1.out) l1 (by simp)
  exact LVs.cons' l1' l2
end
end Lg
namespace Lg
open Go
set_option linter.unusedVariables false
set_option linter.unusedSimpArgs false
set_option linter.unusedSectionVars false
theorem LV.isRO_own {fid:Nat→FuncId} {w:World} {A:Av} {ι:Io}:∀ {r:Bool} {v:Value} {d:D} {O:List Nat},LV fid w A ι r v d O→isRO d=true→O=[]:=by
 intro r v d O h
 refine LV.rec (motive_1:=fun r v d O _=>isRO d=true→O=[]) (motive_2:=fun r vs ds O _=>isROs ds=true→O=[])
  ?_ ?_ ?_ ?_ ?_ ?_ ?_ ?_ ?_ ?_ ?_ ?_ ?_ ?_ ?_ ?_ ?_ ?_ ?_ h<;>intros<;>first | rfl | (rename_i ih e;exact ih (by simpa [isRO] using e)) | (rename_i e;simp [isRO] at e;done) | skip
 rename_i ih1 ih2 e
 simp only [isROs,Bool.and_eq_true] at e
 rw [ih1 e.1,ih2 e.2];rfl
section
variable {fid:Nat→FuncId} {w0:World} {A0:Av} {Cb:Nat→Prop} {nt:Nt} {w:World} {A:Av} {ι:Io} {a:Act} {E:Env} {H:List Ob} {own:Nat→List Nat}
theorem obAt_ge {H:List Ob} {i:Nat} (h:H.length≤i):obAt H i = .dead:=by unfold obAt;rw [List.getElem?_eq_none h];rfl
theorem St.settle1 (S:St fid w0 A0 Cb nt w A ι a E H own) (t:Nat):∃ ι',St fid w0 A0 Cb nt w A ι' a ((t,(unf (lk E t) H).1) :: E) (unf (lk E t) H).2 (put1 own (some t) [])∧∀ i q,ι i=some q→ι' i=some q:=by
 obtain ⟨ι',N,l⟩:=unf_sound_both (S.lv t) ι H (fun _ _ h=>h) S.sp.len (S.sp.nd t)
 have hext:=N.ext S.sp.len
 have hobO:∀ i,i<H.length→obAt (unf (lk E t) H).2 i=obAt H i:=fun i hi=>by unfold obAt;rw [N.pre i hi]
 have hown:∀ t' b,b∈put1 own (some t) [] t'→t'≠t∧b∈own t':=by
  intro t' b h
  unfold put1 at h
  split at h
  ·simp at h
  ·rename_i e;exact ⟨fun e'=>e (by rw [e']),h⟩
 refine ⟨ι',⟨S.kp,S.al,S.cb,S.sz,S.fx,S.df,fun t'=>?_,fun i=>?_,⟨N.out,fun i b ha hi=>?_,fun i j b ha hb hi hj=>?_,fun t' b h=>?_,fun t' b i h ha hi=>?_,fun t'=>?_,fun t1 t2 b h1 h2=>?_⟩⟩,hext⟩
 ·simp only [lk,put1,Option.some.injEq]
  by_cases e:t=t'
  ·subst e;simp only [if_pos];exact l
  ·rw [if_neg e,if_neg e]
   exact LV.keep (Keep.refl w A (fun _=>False)) hext (S.lv t') (by simp)
 ·rcases Nat.lt_or_ge i H.length with hl | hl
  ·rw [hobO i hl,N.io i hl]
   exact (S.ob i).keep (Keep.refl w A (fun _=>False)) hext (by simp)
  ·rcases Nat.lt_or_ge i (unf (lk E t) H).2.length with hl2 | hl2
   ·exact (N.ok i hl hl2).1
   ·rw [obAt_ge hl2];trivial
 ·rcases Nat.lt_or_ge i H.length with hl | hl
  ·rw [hobO i hl] at ha;rw [N.io i hl] at hi;exact S.sp.ib i b ha hi
  ·exact S.sp.tb t b (N.blk i b hl hi)
 ·rcases Nat.lt_or_ge i H.length with hl | hl
  ·rw [hobO i hl] at ha;rw [N.io i hl] at hi
   rcases Nat.lt_or_ge j H.length with hl2 | hl2
   ·rw [hobO j hl2] at hb;rw [N.io j hl2] at hj
    exact S.sp.inj i j b ha hb hi hj
   ·exact (S.sp.to t b i (N.blk j b hl2 hj) ha hi).elim
  ·rcases Nat.lt_or_ge j H.length with hl2 | hl2
   ·rw [hobO j hl2] at hb;rw [N.io j hl2] at hj
    exact (S.sp.to t b j (N.blk i b hl hi) hb hj).elim
   ·exact N.inj i j b hl hl2 hi hj
 ·exact S.sp.tb t' b (hown t' b h).2
 ·obtain ⟨hne,hb⟩:=hown t' b h
  rcases Nat.lt_or_ge i H.length with hl | hl
  ·rw [hobO i hl] at ha;rw [N.io i hl] at hi
   exact S.sp.to t' b i hb ha hi
  ·exact hne (S.sp.ap t' t b hb (N.blk i b hl hi))
 ·unfold put1
  split
  ·simp
  ·exact S.sp.nd t'
 ·obtain ⟨n1,b1⟩:=hown t1 b h1
  obtain ⟨n2,b2⟩:=hown t2 b h2
  exact S.sp.ap t1 t2 b b1 b2
theorem St.settle:∀ (ts:List Nat) {ι:Io} {E:Env} {H:List Ob} {own:Nat→List Nat},St fid w0 A0 Cb nt w A ι a E H own→∃ ι' own',St fid w0 A0 Cb nt w A ι' a (settle ts E H).1 (settle ts E H).2 own'∧(∀ t,t∈ts∨own t=[]→own' t=[])∧∀ i q,ι i=some q→ι' i=some q
 | [],ι,E,H,own,S=>⟨ι,own,S,by intro t h;rcases h with h | h;simp at h;exact h,fun _ _ h=>h⟩
 | t :: ts,ι,E,H,own,S=>by
  unfold Lg.settle
  split
  ·rename_i hro
   obtain ⟨ι',own',S',h',hx⟩:=St.settle ts S
   refine ⟨ι',own',S',fun t' h=>?_,hx⟩
   rcases h with h | h
   ·rcases List.mem_cons.1 h with h | h
    ·subst h;exact h' _ (.inr ((S.lv _).isRO_own hro))
    ·exact h' _ (.inl h)
   ·exact h' _ (.inr h)
  ·obtain ⟨ι1,S1,x1⟩:=S.settle1 t
   obtain ⟨ι',own',S',h',hx⟩:=St.settle ts S1
   refine ⟨ι',own',S',fun t' h=>?_,fun i q hq=>hx i q (x1 i q hq)⟩
   by_cases e:t=t'
   ·subst e;exact h' _ (.inr (by simp [put1]))
   ·rcases h with h | h
    ·rcases List.mem_cons.1 h with h | h
     ·exact (e h.symm).elim
     ·exact h' _ (.inl h)
    ·exact h' _ (.inr (by unfold put1;rw [if_neg (by simpa using e)];exact h))
end
theorem LV.wide_both {fid:Nat→FuncId} {w:World} {A A':Av} {ι:Io} (hA:∀ b off,A b off→A' b off) :
  (∀ {r:Bool} {v:Value} {d:D} {O:List Nat},LV fid w A ι r v d O→plain d=true→LV fid w A' ι r v d O) ∧
  (∀ {r:Bool} {vs:List Value} {ds:List D} {O:List Nat},LVs fid w A ι r vs ds O→plains ds=true→LVs fid w A' ι r vs ds O):=by
 have flatp:∀ ds:List D,plains ds=true→plains (flat ds)=true:=by
  have app:∀ l1 l2:List D,plains l1=true→plains l2=true→plains (l1++l2)=true:=by
   intro l1 l2 h1 h2
   induction l1 with
   | nil=>exact h2
   | cons d l1 ih=>simp only [List.cons_append,plains,Bool.and_eq_true] at h1 ⊢;exact ⟨h1.1,ih h1.2⟩
  intro ds h
  induction ds with
  | nil=>rfl
  | cons d ds ih =>
   simp only [plains,Bool.and_eq_true] at h
   rw [flat_cons]
   refine app _ _ ?_ (ih h.2)
   have h1:=h.1
   cases d<;>simp only [D.cells,plains,Bool.and_true]<;>first | exact h1 | (simpa [plain] using h1)
 have key:∀ {r:Bool} {v:Value} {d:D} {O:List Nat},LV fid w A ι r v d O→plain d=true→LV fid w A' ι r v d O:=by
  intro r v d O h
  refine LV.rec (motive_1:=fun r v d O _=>plain d=true→LV fid w A' ι r v d O) (motive_2:=fun r vs ds O _=>plains ds=true→LVs fid w A' ι r vs ds O)
   ?_ ?_ ?_ ?_ ?_ ?_ ?_ ?_ ?_ ?_ ?_ ?_ ?_ ?_ ?_ ?_ ?_ ?_ ?_ h
  ·intro r v h _;exact .sc v h
  ·intro r v _;exact .un v
  ·intro r v h _;exact .uk v h
  ·intro r _;exact .nl
  ·intro r a _;exact .sn a
  ·intro r f vs ds O _ ih e;exact .fn f vs ds O (ih e)
  ·intro r vs ds O _ ih e;exact .agg vs ds O (ih e)
  ·intro r vs ds O _ ih e;exact .tup vs ds O (ih e)
  ·intro r a n cap sz ds vs hn hc hu h h1 hr ih e
   cases ds with
   | cons=>simp [plain,isNil] at e
   | nil =>
    have:vs=[]:=h.nil_of
    subst this
    exact .sl a n cap sz [] [] hn hc hu .nil h1 (by simp)
  ·intro r ad ds vs h h1 hr ih e
   cases ds with
   | cons=>simp [plain,isNil] at e
   | nil =>
    have:vs=[]:=h.nil_of
    subst this
    exact .ep ad [] [] .nil h1 (by simp)
  ·intro r a wr sz e;exact .osln a wr sz
  ·intro r b cap sz wr ds vs cs T fr hb hf hu h h1 hr hc hs ha hA' ih e
   exact .osl b cap sz wr ds vs cs T fr hb hf hu (ih (flatp ds (by simpa [plain] using e))) h1 hr hc hs (fun e off=>hA _ _ (ha e off)) (fun off ho=>hA _ _ (hA' off ho))
  ·intro r b vs ds O T fr hb hf _ h1 hA' ih e;exact .obx b vs ds O T fr hb hf (ih (by simpa [plain] using e)) h1 (fun off=>hA _ _ (hA' off))
  ·intro r b es c ks xs hb _ _ hA' ih1 ih2 e
   simp only [plain,Bool.and_eq_true] at e
   exact .omp b es c ks xs hb (ih1 e.1) (ih2 e.2) (fun off=>hA _ _ (hA' off))
  ·intro a id sz off len cap q hi h0 h1 e;exact .rf a id sz off len cap q hi h0 h1
  ·intro id sz e off b hi e';exact .pt id sz e off b hi
  ·intro id b hi e;exact .mp id b hi
  ·intro r _;exact .nil
  ·intro r v d O vs ds Os _ _ ih1 ih2 e
   simp only [plains,Bool.and_eq_true] at e
   exact .cons v d O vs ds Os (ih1 e.1) (ih2 e.2)
 refine ⟨key,?_⟩
 intro r vs
 induction vs with
 | nil=>intro ds O h _;cases h;exact .nil
 | cons v vs ih =>
  intro ds O h e
  cases h with
  | cons _ d O1 _ ds O2 h hs =>
   simp only [plains,Bool.and_eq_true] at e
   exact .cons v d O1 vs ds O2 (key h e.1) (ih hs e.2)
end Lg
namespace Lg
open Go
set_option linter.unusedVariables false
set_option linter.unusedSimpArgs false
set_option linter.unusedSectionVars false
def frz:Ob→Ob
 | .ow _ sz ds=> .ow false sz ds
 | o=>o
def Frz (H H':List Ob) (I:List Nat):Prop:=H'.length=H.length∧∀ i,obAt H' i=if i∈I then frz (obAt H i) else obAt H i
theorem Frz.nil {H:List Ob} {I:List Nat} (h:I=[]):Frz H H I:=⟨rfl,fun i=>by rw [h];simp⟩
theorem frz_frz (o:Ob):frz (frz o)=frz o:=by cases o<;>rfl
theorem Frz.trans {H H1 H2:List Ob} {I J:List Nat} (h:Frz H H1 I) (k:Frz H1 H2 J):Frz H H2 (I++J):=by
 refine ⟨k.1.trans h.1,fun i=>?_⟩
 rw [k.2 i,h.2 i]
 by_cases h1:i∈I<;>by_cases h2:i∈J<;>simp [h1,h2,frz_frz]
theorem Frz.ow {H H':List Ob} {I:List Nat} (h:Frz H H' I) {i:Nat} {wr:Bool} {sz:Nat} {ds:List D} (e:obAt H' i = .ow wr sz ds):∃ wr',obAt H i = .ow wr' sz ds:=by
 rw [h.2 i] at e
 split at e
 ·cases ho:obAt H i with
  | ow wr' sz' ds'=>rw [ho] at e;simp only [frz,Ob.ow.injEq] at e;exact ⟨wr',by rw [e.2.1,e.2.2]⟩
  | _=>rw [ho] at e;simp [frz] at e
 ·exact ⟨wr,e⟩
section
variable {fid:Nat→FuncId} {w:World} {A Ac:Av} {ι ι':Io} {H:List Ob}
theorem LV.narrow_both (hA:∀ b off,Ac b off→A b off) :
  (∀ {v:Value} {d:D},LV fid w A ι false v d []→LV fid w Ac ι' false v d [])∧(∀ {vs:List Value} {ds:List D},LVs fid w A ι false vs ds []→LVs fid w Ac ι' false vs ds []):=by
 have key:∀ {r:Bool} {v:Value} {d:D} {O:List Nat},LV fid w A ι r v d O→r=false→O=[]→LV fid w Ac ι' false v d []:=by
  intro r v d O h
  refine LV.rec (motive_1:=fun r v d O _=>r=false→O=[]→LV fid w Ac ι' false v d []) (motive_2:=fun r vs ds O _=>r=false→O=[]→LVs fid w Ac ι' false vs ds [])
   ?_ ?_ ?_ ?_ ?_ ?_ ?_ ?_ ?_ ?_ ?_ ?_ ?_ ?_ ?_ ?_ ?_ ?_ ?_ h
  ·intro r v h _ _;exact .sc v h
  ·intro r v _ _;exact .un v
  ·intro r v h _ _;exact .uk v h
  ·intro r _ _;exact .nl
  ·intro r a _ _;exact .sn a
  ·intro r f vs ds O _ ih e e';exact .fn f vs ds [] (ih e e')
  ·intro r vs ds O _ ih e e';exact .agg vs ds [] (ih e e')
  ·intro r vs ds O _ ih e e';exact .tup vs ds [] (ih e e')
  ·intro r a n cap sz ds vs hn hc hu h h1 hr ih _ _
   exact .sl a n cap sz ds vs hn hc hu (ih rfl rfl).weak h1 (fun k v hk=>by obtain ⟨ad,e,n,c⟩:=hr k v hk;exact ⟨ad,e,fun x=>n (hA _ _ x),c⟩)
  ·intro r ad ds vs h h1 hr ih _ _
   exact .ep ad ds vs (ih rfl rfl).weak h1 (fun k v hk=>⟨fun x=>(hr k v hk).1 (hA _ _ x),(hr k v hk).2⟩)
  ·intro r a wr sz _ _;exact .osln a wr sz
  ·intro r b cap sz wr ds vs cs T fr hb hf hu h h1 hr hc hs ha hA ih _ e;cases e
  ·intro r b vs ds O T fr hb hf _ h1 hA ih _ e;cases e
  ·intro r b es c ks xs hb _ _ hA ih1 ih2 _ e;cases e
  ·intro a id sz off len cap q hi h0 h1 e;cases e
  ·intro id sz e off b hi e';cases e'
  ·intro id b hi e;cases e
  ·intro r _ _;exact .nil
  ·intro r v d O vs ds Os _ _ ih1 ih2 e e'
   have:=List.append_eq_nil_iff.1 e'
   exact .cons v d [] vs ds [] (ih1 e this.1) (ih2 e this.2)
 refine ⟨fun h=>key h rfl rfl,?_⟩
 intro vs
 induction vs with
 | nil=>intro ds h;cases ds with | nil=>exact .nil | cons=>cases h
 | cons v vs ih =>
  intro ds h
  cases ds with
  | nil=>cases h
  | cons d ds=>exact LVs.cons' (key h.uncons.1 rfl rfl) (ih h.uncons.2)
def RowsOut (Ac:Av) (ι:Io) (H:List Ob) (I:List Nat):Prop:=∀ (i b:Nat) (wr:Bool) (sz:Nat) (ds:List D) (off:Nat),i∈I→ι i=some (some b)→obAt H i = .ow wr sz ds→off<ds.length*sz→¬Ac b off
theorem RowsOut.frz {H':List Ob} {I J:List Nat} (h:RowsOut Ac ι H I) (k:Frz H H' J):RowsOut Ac ι H' I:=by
 intro i b wr sz ds off hi hb ho hlt
 obtain ⟨wr',ho'⟩:=k.ow ho
 exact h i b wr' sz ds off hi hb ho' hlt
def OwOK (fid:Nat→FuncId) (w:World) (A:Av) (ι:Io) (H:List Ob):Prop:=∀ (i:Nat) (wr:Bool) (sz:Nat) (ds:List D),obAt H i = .ow wr sz ds→(ι i=some none∧ds=[])∨∃ b,ι i=some (some b)∧∃ (cs:Array Value) (T:TypeId) (fr:Nat×Nat) (vs:List Value),w.heap[b]? = some (.cells cs T fr)∧(∀ d,d∈ds→d.cells.length=sz) ∧
  LVs fid w A (fun _=>none) false vs (flat ds) []∧(∀ v,v∈vs→v.oneCell'=true)∧(∀ (k:Nat) (v:Value),vs[k]? = some v→cs[k]? = some v)
theorem OwOK.frz {H':List Ob} {J:List Nat} (h:OwOK fid w A ι H) (k:Frz H H' J):OwOK fid w A ι H':=by
 intro i wr sz ds ho
 obtain ⟨wr',ho'⟩:=k.ow ho
 exact h i wr' sz ds ho'
theorem owOK (hob:∀ i,ObjOK fid w A ι (ι i) (obAt H i)):OwOK fid w A ι H:=by
 intro i wr sz ds ho
 have:=hob i
 rw [ho] at this
 rcases this with ⟨h1,h2⟩ | ⟨b,hb,cs,T,fr,vs,k1,k2,ku,k4,k5,k6,k7,k8⟩
 ·exact .inl ⟨h1,h2⟩
 ·exact .inr ⟨b,hb,cs,T,fr,vs,k1,ku,k4,k5,k6⟩
theorem rof_rf {ad:Option Addr} {len cap:Nat} {id sz off:Nat} {q:Option Nat} {wr:Bool} {sz':Nat} {ds:List D} (hA:∀ b off,Ac b off→A b off) (hok:OwOK fid w A ι H) (hH:H[id]? = some (.ow wr sz' ds)) (hh:(off=0∨sz=sz')∧off+len≤ds.length)
  (hi:ι id=some q) (h0:q=none→len=0∧cap=0∧off=0) (h1:∀ b,q=some b→(ad=some ⟨b,off*sz,none⟩∨cap=0)∧len≤cap∧∃ (cs:Array Value) (T:TypeId) (fr:Nat×Nat),w.heap[b]? = some (Obj.cells cs T fr)∧(off+cap)*sz≤cs.size)
  (hR:RowsOut Ac ι H [id]):LV fid w Ac ι' false (.slice ad len cap) (.sl sz' ((ds.drop off).take len)) []:=by
 have hlen:((ds.drop off).take len).length=len:=by rw [List.length_take,List.length_drop];omega
 rcases hok id wr sz' ds (obAt_of hH) with ⟨eb,rfl⟩ | ⟨b,eb,cs,T,fr,vs,g1,hu,g4,g5,g6⟩
 ·rw [hi] at eb
  injection eb with eb
  obtain ⟨hl0,hc0,_⟩:=h0 eb
  subst hl0;subst hc0
  exact .sl ad 0 0 sz' [] [] rfl (Nat.le_refl _) (by simp) .nil (by simp) (by simp)
 ·have hid:=eb
  rw [hi] at eb
  injection eb with eb
  obtain ⟨k1,k2,_⟩:=h1 b eb
  have hvl:vs.length=ds.length*sz':=by rw [g4.length_eq,flat_len hu]
  refine .sl ad len cap sz' _ ((vs.drop (off*sz')).take (len*sz')) hlen k2 (fun d hd=>hu d (List.mem_of_mem_drop (List.mem_of_mem_take hd))) ?_ (fun v hv=>g5 v (List.mem_of_mem_drop (List.mem_of_mem_take hv))) fun k u hk=>?_
  ·have:=(g4.drop (off*sz')).take (len*sz')
   rw [flat_drop hu,flat_take (fun d hd=>hu d (List.mem_of_mem_drop hd))] at this
   exact (LV.narrow_both hA).2 this
  ·have hk':=take_get hk
   rw [drop_get] at hk'
   have hlt:k<len*sz':=by
    rw [List.getElem?_take] at hk
    split at hk
    ·assumption
    ·cases hk
   have hlt2:off*sz'+k<ds.length*sz':=by
    have:(off+len)*sz'≤ds.length*sz':=Nat.mul_le_mul_right _ hh.2
    rw [Nat.add_mul] at this;omega
   rcases k1 with rfl | k1
   ·have e0:off*sz=off*sz':=by rcases hh.1 with e | e<;>subst e<;>simp
    refine ⟨_,rfl,?_,?_⟩
    ·rw [show (⟨b,off*sz,none⟩:Addr).off=off*sz from rfl,e0]
     exact hR id b wr sz' ds (off*sz'+k) (by simp) hid (obAt_of hH) hlt2
    ·rw [addr_add,e0]
     exact cell_of g1 (g6 _ _ hk')
   ·exfalso
    have:len=0:=by omega
    rw [this] at hlt;omega
theorem rof_sound {fz:Bool} (hA:∀ b off,Ac b off→A b off) :
  (∀ {r:Bool} {v:Value} {d:D} {O:List Nat},LV fid w A ι r v d O→∀ (H H':List Ob) (d':D),OwOK fid w A ι H→RowsOut Ac ι H (idsD d)→(∀ b,b∈O→∀ off,¬Ac b off)→rof fz d H=some (d',H')→LV fid w Ac ι' false v d' []∧Frz H H' (if fz then idsD d else [])):=by
 intro r v d O h
 refine LV.rec (motive_1:=fun r v d O _=>∀ (H H':List Ob) (d':D),OwOK fid w A ι H→RowsOut Ac ι H (idsD d)→(∀ b,b∈O→∀ off,¬Ac b off)→rof fz d H=some (d',H')→LV fid w Ac ι' false v d' []∧Frz H H' (if fz then idsD d else []))
  (motive_2:=fun r vs ds O _=>∀ (H H':List Ob) (ds':List D),OwOK fid w A ι H→RowsOut Ac ι H (idsDs ds)→(∀ b,b∈O→∀ off,¬Ac b off)→rofs fz ds H=some (ds',H')→LVs fid w Ac ι' false vs ds' []∧Frz H H' (if fz then idsDs ds else []))
  ?_ ?_ ?_ ?_ ?_ ?_ ?_ ?_ ?_ ?_ ?_ ?_ ?_ ?_ ?_ ?_ ?_ ?_ ?_ h
 ·intro r v h H H' d' _ _ _ e;simp [rof] at e;obtain ⟨rfl,rfl⟩:=e;exact ⟨.sc v h,Frz.nil (by simp [idsD,idsDs])⟩
 ·intro r v H H' d' _ _ _ e;simp [rof] at e;obtain ⟨rfl,rfl⟩:=e;exact ⟨.un v,Frz.nil (by simp [idsD,idsDs])⟩
 ·intro r v h H H' d' _ _ _ e;simp [rof] at e;obtain ⟨rfl,rfl⟩:=e;exact ⟨.uk v h,Frz.nil (by simp [idsD,idsDs])⟩
 ·intro r H H' d' _ _ _ e;simp [rof] at e;obtain ⟨rfl,rfl⟩:=e;exact ⟨.nl,Frz.nil (by simp [idsD,idsDs])⟩
 ·intro r a H H' d' _ _ _ e;simp [rof] at e;obtain ⟨rfl,rfl⟩:=e;exact ⟨.sn a,Frz.nil (by simp [idsD,idsDs])⟩
 ·intro r f vs ds O _ ih H H' d' h1 h2 h3 e
  simp only [rof] at e
  obtain ⟨⟨ds',H1⟩,e1,e2⟩:=Option.map_eq_some_iff.1 e
  simp only [Prod.mk.injEq] at e2
  obtain ⟨rfl,rfl⟩:=e2
  obtain ⟨q1,q2⟩:=ih H H1 ds' h1 h2 h3 e1
  exact ⟨.fn f vs ds' [] q1,q2⟩
 ·intro r vs ds O _ ih H H' d' h1 h2 h3 e
  simp only [rof] at e
  obtain ⟨⟨ds',H1⟩,e1,e2⟩:=Option.map_eq_some_iff.1 e
  simp only [Prod.mk.injEq] at e2
  obtain ⟨rfl,rfl⟩:=e2
  obtain ⟨q1,q2⟩:=ih H H1 ds' h1 h2 h3 e1
  exact ⟨.agg vs ds' [] q1,q2⟩
 ·intro r vs ds O _ ih H H' d' h1 h2 h3 e
  simp only [rof] at e
  obtain ⟨⟨ds',H1⟩,e1,e2⟩:=Option.map_eq_some_iff.1 e
  simp only [Prod.mk.injEq] at e2
  obtain ⟨rfl,rfl⟩:=e2
  obtain ⟨q1,q2⟩:=ih H H1 ds' h1 h2 h3 e1
  exact ⟨.tup vs ds' [] q1,q2⟩
 ·intro r a n cap sz ds vs hn hc hu h h1 hr ih H H' d' _ _ _ e
  simp [rof] at e;obtain ⟨rfl,rfl⟩:=e
  exact ⟨(LV.narrow_both hA).1 (.sl a n cap sz ds vs hn hc hu h h1 hr),Frz.nil (by simp [idsD,idsDs])⟩
 ·intro r ad ds vs h h1 hr ih H H' d' _ _ _ e
  simp [rof] at e;obtain ⟨rfl,rfl⟩:=e
  exact ⟨(LV.narrow_both hA).1 (.ep ad ds vs h h1 hr),Frz.nil (by simp [idsD,idsDs])⟩
 ·intro r a wr sz H H' d' _ _ _ e
  simp only [rof] at e
  split at e
  ·cases e
  ·injection e with e;simp only [Prod.mk.injEq] at e;obtain ⟨rfl,rfl⟩:=e
   exact ⟨.sl a 0 0 sz [] [] rfl (Nat.le_refl _) (by simp) .nil (by simp) (by simp),Frz.nil (by simp [idsD,idsDs])⟩
 ·intro r b cap sz wr ds vs cs T fr hb hf hu h h1 hr hc hs ha hA' ih H H' d' _ _ h3 e
  simp only [rof] at e
  split at e
  ·cases e
  ·injection e with e;simp only [Prod.mk.injEq] at e;obtain ⟨rfl,rfl⟩:=e
   refine ⟨.sl _ _ cap sz ds vs rfl hc hu ((LV.narrow_both hA).2 h) h1 (fun k v hk=>⟨_,rfl,h3 b (by simp) _,?_⟩),Frz.nil (by simp [idsD,idsDs])⟩
   rw [addr_add,Nat.zero_add];exact cell_of hb (hr k v hk)
 ·intro r b vs ds O T fr hb hf _ h1 hA' ih H H' d' _ _ _ e;simp [rof] at e
 ·intro r b es c ks xs hb _ _ hA' ih1 ih2 H H' d' _ _ _ e;simp [rof] at e
 ·intro a id sz off len cap q hi h0 h1 H H' d' hok hR _ e
  simp only [rof] at e
  split at e
  ·rename_i wr sz' ds hH
   split at e
   ·rename_i hh
    injection e with e
    simp only [Prod.mk.injEq] at e
    obtain ⟨rfl,e2⟩:=e
    refine ⟨rof_rf hA hok hH hh hi h0 h1 hR,?_⟩
    cases fz with
    | false=>simp only [Bool.false_eq_true,if_false] at e2;subst e2;exact Frz.nil (by simp [idsD,idsDs])
    | true =>
     simp only [if_true] at e2;subst e2
     refine ⟨by simp,fun i=>?_⟩
     rw [obAt_set]
     by_cases e:i=id
     ·subst e
      simp only [if_pos,true_and,lt_of_get hH,idsD,List.mem_singleton]
      rw [obAt_of hH];rfl
     ·rw [if_neg (fun h=>e h.1.symm),if_pos rfl,if_neg (by simp [idsD,e])]
   ·cases e
  ·cases e
 ·intro id sz e off b hi H H' d' _ _ _ e';simp [rof] at e'
 ·intro id b hi H H' d' _ _ _ e;simp [rof] at e
 ·intro r H H' ds' _ _ _ e;simp [rofs] at e;obtain ⟨rfl,rfl⟩:=e;exact ⟨.nil,Frz.nil (by simp [idsD,idsDs])⟩
 ·intro r v d O vs ds Os _ _ ih1 ih2 H H' ds' hok hR h3 e
  simp only [rofs] at e
  obtain ⟨⟨d1,H1⟩,e1,e⟩:=Option.bind_eq_some_iff.1 e
  obtain ⟨⟨ds2,H2⟩,e2,e⟩:=Option.map_eq_some_iff.1 e
  simp only [Prod.mk.injEq] at e
  obtain ⟨rfl,rfl⟩:=e
  obtain ⟨q1,f1⟩:=ih1 H H1 d1 hok (fun i b wr sz ds off hi=>hR i b wr sz ds off (by simp [idsDs,hi])) (fun b hb=>h3 b (by simp [hb])) e1
  have hR2:RowsOut Ac ι H (idsDs ds):=fun i b wr sz ds off hi=>hR i b wr sz ds off (by simp [idsDs,hi])
  obtain ⟨q2,f2⟩:=ih2 H1 H2 ds2 (hok.frz f1) (hR2.frz f1) (fun b hb=>h3 b (by simp [hb])) e2
  refine ⟨LVs.cons' q1 q2,?_⟩
  have:=f1.trans f2
  cases fz<;>simpa [idsDs] using this
end
end Lg
namespace Lg
open Go
set_option linter.unusedVariables false
set_option linter.unusedSimpArgs false
set_option linter.unusedSectionVars false
def Gone (H H':List Ob):Prop:=H'.length=H.length∧∀ i,obAt H' i=obAt H i∨obAt H' i = .dead
theorem Gone.refl (H:List Ob):Gone H H:=⟨rfl,fun i=> .inl rfl⟩
theorem Gone.trans {H H1 H2:List Ob} (h:Gone H H1) (k:Gone H1 H2):Gone H H2:=by
 refine ⟨k.1.trans h.1,fun i=>?_⟩
 rcases k.2 i with e | e
 ·rcases h.2 i with e' | e'
  ·exact .inl (e.trans e')
  ·exact .inr (e.trans e')
 ·exact .inr e
theorem Gone.alive {H H':List Ob} (h:Gone H H') {i:Nat} (ha:alive (obAt H' i)=true):obAt H' i=obAt H i:=by
 rcases h.2 i with e | e
 ·exact e
 ·rw [e] at ha;cases ha
theorem Gone.set (H:List Ob) (id:Nat):Gone H (H.set id .dead):=by
 refine ⟨by simp,fun i=>?_⟩
 rw [obAt_set]
 split
 ·exact .inr rfl
 ·exact .inl rfl
section
variable {fid:Nat→FuncId} {w:World} {A:Av} {ι ι':Io}
theorem Gone.ob {H H':List Ob} (h:Gone H H') (hob:∀ i,ObjOK fid w A ι (ι i) (obAt H i)):∀ i,ObjOK fid w A ι (ι i) (obAt H' i):=by
 intro i
 rcases h.2 i with e | e
 ·rw [e];exact hob i
 ·rw [e];trivial
def Inj (ι:Io) (H:List Ob):Prop:=∀ i j b,alive (obAt H i)=true→alive (obAt H j)=true→ι i=some (some b)→ι j=some (some b)→i=j
theorem Gone.inj {H H':List Ob} (h:Gone H H') (k:Inj ι H):Inj ι H':=by
 intro i j b h1 h2
 have e1:=h.alive h1
 have e2:=h.alive h2
 rw [e1] at h1;rw [e2] at h2
 exact k i j b h1 h2
def Taken (ι:Io) (H H':List Ob) (O:List Nat):Prop:=∀ b,b∈O→∃ i,ι i=some (some b)∧alive (obAt H i)=true∧obAt H' i = .dead
theorem Taken.app {H H1 H2:List Ob} {O1 O2:List Nat} (g1:Gone H H1) (g2:Gone H1 H2) (h1:Taken ι H H1 O1) (h2:Taken ι H1 H2 O2):Taken ι H H2 (O1++O2):=by
 intro b hb
 rcases List.mem_append.1 hb with hb | hb
 ·obtain ⟨i,e1,e2,e3⟩:=h1 b hb
  refine ⟨i,e1,e2,?_⟩
  rcases g2.2 i with e | e
  ·rw [e,e3]
  ·exact e
 ·obtain ⟨i,e1,e2,e3⟩:=h2 b hb
  exact ⟨i,e1,by rwa [g1.alive e2] at e2,e3⟩
theorem Taken.apart {H H1 H2:List Ob} {O1 O2:List Nat} (hi:Inj ι H) (g1:Gone H H1) (h1:Taken ι H H1 O1) (h2:Taken ι H1 H2 O2):∀ b,b∈O1→b∉O2:=by
 intro b m1 m2
 obtain ⟨i,e1,e2,e3⟩:=h1 b m1
 obtain ⟨j,f1,f2,f3⟩:=h2 b m2
 have f2':=f2
 rw [g1.alive f2] at f2
 have:=hi i j b e2 f2 e1 f1
 subst this
 rw [e3] at f2'
 cases f2'
def FldOK (fid:Nat→FuncId) (w:World) (A:Av) (ι ι':Io) (f:D→List Ob→Option (D×List Ob)):Prop :=
 ∀ (v:Value) (d d':D) (H H':List Ob),LV fid w A ι true v d []→(∀ i,ObjOK fid w A ι (ι i) (obAt H i))→Inj ι H→f d H=some (d',H') →
  ∃ O,LV fid w A ι' false v d' O∧O.Nodup∧Gone H H'∧Taken ι H H' O
theorem thr_sound {f:D→List Ob→Option (D×List Ob)} (hf:FldOK fid w A ι ι' f):∀ (vs:List Value) (ds ds':List D) (H H':List Ob),LVs fid w A ι true vs ds []→(∀ i,ObjOK fid w A ι (ι i) (obAt H i))→Inj ι H→thr f ds H=some (ds',H') →
  ∃ O,LVs fid w A ι' false vs ds' O∧O.Nodup∧Gone H H'∧Taken ι H H' O
 | [],[],ds',H,H',h,_,_,e=>by
  simp [thr] at e
  obtain ⟨rfl,rfl⟩:=e
  exact ⟨[], .nil,List.nodup_nil,Gone.refl _,by intro b hb;simp at hb⟩
 | [],_ :: _,ds',H,H',h,_,_,e=>by cases h
 | _ :: _,[],ds',H,H',h,_,_,e=>by cases h
 | v :: vs,d :: ds,ds',H,H',h,hob,hi,e=>by
  simp only [thr] at e
  obtain ⟨⟨d1,H1⟩,e1,e⟩:=Option.bind_eq_some_iff.1 e
  obtain ⟨⟨ds2,H2⟩,e2,e⟩:=Option.map_eq_some_iff.1 e
  simp only [Prod.mk.injEq] at e
  obtain ⟨rfl,rfl⟩:=e
  obtain ⟨O1,l1,n1,g1,t1⟩:=hf v d d1 H H1 h.uncons.1 hob hi e1
  obtain ⟨O2,l2,n2,g2,t2⟩:=thr_sound hf vs ds ds2 H1 H2 h.uncons.2 (g1.ob hob) (g1.inj hi) e2
  exact ⟨O1++O2, .cons v d1 O1 vs ds2 O2 l1 l2,List.nodup_append.2 ⟨n1,n2,fun a ha b hb e=>Taken.apart hi g1 t1 t2 a ha (e▸hb)⟩,g1.trans g2,t1.app g1 g2 t2⟩
theorem fld_sound:∀ n,FldOK fid w A ι ι' (fld n)
 | 0=>by intro v d d' H H' _ _ _ e;simp [fld] at e
 | n+1=>by
  intro v d d' H H' h hob hi e
  have ih:=thr_sound (fld_sound n)
  have same:∀ d,isRO d=true→LV fid w A ι true v d []→d'=d→H'=H→∃ O,LV fid w A ι' false v d' O∧O.Nodup∧Gone H H'∧Taken ι H H' O:=by
   rintro d hr hl rfl rfl
   exact ⟨[],(hl.ro hr).weak,List.nodup_nil,Gone.refl _,by intro b hb;simp at hb⟩
  cases d with
  | sc x=>simp [fld] at e;exact same _ rfl h e.1.symm e.2.symm
  | un=>simp [fld] at e;exact same _ rfl h e.1.symm e.2.symm
  | uk=>simp [fld] at e;exact same _ rfl h e.1.symm e.2.symm
  | nl=>simp [fld] at e;exact same _ rfl h e.1.symm e.2.symm
  | sn=>simp [fld] at e;exact same _ rfl h e.1.symm e.2.symm
  | sl sz ds=>simp [fld] at e;exact same _ rfl h e.1.symm e.2.symm
  | ep ds=>simp [fld] at e
  | osl wr sz ds=>simp [fld] at e
  | obx ds=>simp [fld] at e
  | omp ks vs=>simp [fld] at e
  | agg ds =>
   simp only [fld] at e
   obtain ⟨⟨ds',H1⟩,e1,e2⟩:=Option.map_eq_some_iff.1 e
   simp only [Prod.mk.injEq] at e2
   obtain ⟨rfl,rfl⟩:=e2
   obtain ⟨vs,rfl,hv⟩:=h.inv_agg
   obtain ⟨O,l,r⟩:=ih vs ds ds' H H1 hv hob hi e1
   exact ⟨O, .agg vs ds' O l,r⟩
  | tup ds =>
   simp only [fld] at e
   obtain ⟨⟨ds',H1⟩,e1,e2⟩:=Option.map_eq_some_iff.1 e
   simp only [Prod.mk.injEq] at e2
   obtain ⟨rfl,rfl⟩:=e2
   obtain ⟨vs,rfl,hv⟩:=h.inv_tup
   obtain ⟨O,l,r⟩:=ih vs ds ds' H H1 hv hob hi e1
   exact ⟨O, .tup vs ds' O l,r⟩
  | fn f ds =>
   simp only [fld] at e
   obtain ⟨⟨ds',H1⟩,e1,e2⟩:=Option.map_eq_some_iff.1 e
   simp only [Prod.mk.injEq] at e2
   obtain ⟨rfl,rfl⟩:=e2
   obtain ⟨vs,rfl,hv⟩:=h.inv_fn
   obtain ⟨O,l,r⟩:=ih vs ds ds' H H1 hv hob hi e1
   exact ⟨O, .fn f vs ds' O l,r⟩
  | rf id sz off len =>
   simp only [fld] at e
   split at e
   ·rename_i wr sz' ds hH
    split at e
    case isFalse=>cases e
    rename_i hh
    obtain ⟨rfl,rfl⟩:=hh
    have key:∃ dn wr',d' = .osl wr' sz dn∧H'=H.set id .dead∧dn=ds.take len∧dn.length=len∧(wr'=true→wr=true)∧(len<ds.length→wr=true):=by
     split at e
     ·rename_i hl
      injection e with e
      simp only [Prod.mk.injEq] at e
      obtain ⟨rfl,rfl⟩:=e
      exact ⟨ds,wr,rfl,rfl,by rw [hl,List.take_length],hl.symm,fun h=>h,fun h=>by omega⟩
     ·split at e
      ·rename_i hl
       simp only [Bool.and_eq_true,decide_eq_true_eq] at hl
       injection e with e
       simp only [Prod.mk.injEq] at e
       obtain ⟨rfl,rfl⟩:=e
       exact ⟨_,true,rfl,rfl,rfl,by rw [List.length_take];omega,fun _=>hl.1,fun _=>hl.1⟩
      ·cases e
    obtain ⟨dn,wr',rfl,rfl,hdn,hlen,hw1,hw2⟩:=key
    obtain ⟨ad,cap,q,rfl,_,_,hid,h0,h1⟩:=h.inv_rf
    have hobi:=hob id
    rw [obAt_of hH] at hobi
    rcases hobi with ⟨eb,rfl⟩ | ⟨b,eb,cs,T,fr,vs,k1,k2,ku,k4,k5,k6,k7,k8⟩
    ·rw [hid] at eb
     injection eb with eb
     obtain ⟨hl0,hc0,_⟩:=h0 eb
     subst hc0;subst hl0
     have:dn=[]:=by rw [hdn];rfl
     subst this
     exact ⟨[], .osln ad wr' sz,List.nodup_nil,Gone.set H id,by intro b hb;simp at hb⟩
    ·have eb':=eb
     rw [hid] at eb
     injection eb with eb
     obtain ⟨m1,m2,cs',T',fr',m3,m4⟩:=h1 b eb
     rw [k1] at m3
     injection m3 with m3;injection m3 with m3 m5 m6
     subst m3
     have hle:len≤ds.length:=by rw [hdn,List.length_take] at hlen;omega
     rcases m1 with rfl | m1
     ·refine ⟨[b],?_,by simp,Gone.set H id,?_⟩
      ·have hfl:flat ds=flat dn++flat (ds.drop len):=by
        rw [hdn];unfold flat;rw [←List.flatMap_append,List.take_append_drop]
       have kn:LVs fid w A (fun _=>none) false (vs.take (flat dn).length) (flat dn) []:=by
        have:=k4.take (flat dn).length
        rw [hfl,List.take_left] at this
        exact this
       have hvl:vs.length=(flat ds).length:=k4.length_eq
       have hvn:(vs.take (flat dn).length).length=(flat dn).length:=kn.length_eq
       have:=LV.osl (fid:=fid) (w:=w) (A:=A) (ι:=ι') (r:=false) b cap sz wr' dn (vs.take (flat dn).length) cs T fr k1 k2 (fun d hd=>ku d (by rw [hdn] at hd;exact List.mem_of_mem_take hd)) kn.weak
        (fun v hv=>k5 v (List.mem_of_mem_take hv)) (fun k v hk=>k6 k v (by rw [List.getElem?_take] at hk;split at hk;exact hk;cases hk)) (by rw [hlen];exact m2) (by simpa using m4) (fun e off=>k7 (hw1 e) off)
        (fun off ho=>by
         by_cases hlt:len<ds.length
         ·exact k7 (hw2 hlt) off
         ·have:dn=ds:=by rw [hdn,List.take_of_length_le (by omega)]
          rw [hvn,this] at ho
          exact k8 off (by omega))
       rw [hlen] at this
       simpa using this
      ·intro b' hb'
       simp at hb';subst hb'
       exact ⟨id,eb',by rw [obAt_of hH];rfl,by rw [obAt_set,if_pos ⟨rfl,lt_of_get hH⟩]⟩
     ·subst m1
      have hl0:len=0:=Nat.le_zero.1 m2
      subst hl0
      have:dn=[]:=by rw [hdn];rfl
      subst this
      exact ⟨[], .osln ad wr' sz,List.nodup_nil,Gone.set H id,by intro b hb;simp at hb⟩
   ·cases e
  | pt id sz e1 off =>
   simp only [fld] at e
   split at e
   ·rename_i ds hH
    split at e
    ·rename_i hh
     obtain ⟨rfl,rfl⟩:=hh
     obtain ⟨⟨ds',H1⟩,e1,e2⟩:=Option.map_eq_some_iff.1 e
     simp only [Prod.mk.injEq] at e2
     obtain ⟨rfl,rfl⟩:=e2
     obtain ⟨b,hid,rfl,_⟩:=h.inv_pt
     have hobi:=hob id
     rw [obAt_of hH] at hobi
     obtain ⟨b',vs,T,fr,eb,h1,h2,h3,h4,h5⟩:=hobi
     rw [hid] at eb
     injection eb with eb;injection eb with eb;subst eb
     have g0:=Gone.set H id
     have hlive:alive (obAt H id)=true:=by rw [obAt_of hH];rfl
     have t0:Taken ι H (H.set id .dead) [b]:=by
      intro b' hb'
      simp at hb';subst hb'
      exact ⟨id,hid,hlive,by rw [obAt_set,if_pos ⟨rfl,lt_of_get hH⟩]⟩
     obtain ⟨O,l,n1,g1,t1⟩:=ih vs ds ds' (H.set id .dead) H1 h3 (g0.ob hob) (g0.inj hi) e1
     refine ⟨b :: O,?_,?_,g0.trans g1,?_⟩
     ·have:=LV.obx (fid:=fid) (w:=w) (A:=A) (ι:=ι') (r:=false) b vs ds' O T fr h1 h2 l h4 h5
      simpa using this
     ·exact List.nodup_cons.2 ⟨Taken.apart hi g0 t0 t1 b (by simp),n1⟩
     ·exact t0.app g0 g1 t1
    ·cases e
   ·cases e
  | mp id =>
   simp only [fld] at e
   split at e
   ·rename_i ks vs hH
    injection e with e
    simp only [Prod.mk.injEq] at e
    obtain ⟨rfl,rfl⟩:=e
    have hobi:=hob id
    rw [obAt_of hH] at hobi
    obtain ⟨b,es,c,eb,h1,h2,h3,h5⟩:=hobi
    cases h with
    | mp _ b' hid =>
     rw [hid] at eb
     injection eb with eb;injection eb with eb;subst eb
     refine ⟨[b'], .omp b' es c ks vs h1 h2.weak h3.weak h5,by simp,Gone.set H id,?_⟩
     intro b'' hb'
     simp at hb';subst hb'
     exact ⟨id,hid,by rw [obAt_of hH];rfl,by rw [obAt_set,if_pos ⟨rfl,lt_of_get hH⟩]⟩
   ·cases e
end
end Lg
namespace Lg
open Go
set_option linter.unusedVariables false
set_option linter.unusedSimpArgs false
set_option linter.unusedSectionVars false
def Mix (H H':List Ob) (I:List Nat):Prop:=H'.length=H.length∧∀ i,obAt H' i = .dead∨obAt H' i=if i∈I then frz (obAt H i) else obAt H i
theorem Frz.mix {H H':List Ob} {I:List Nat} (h:Frz H H' I):Mix H H' I:=⟨h.1,fun i=> .inr (h.2 i)⟩
theorem Gone.mix {H H':List Ob} (h:Gone H H'):Mix H H' []:=⟨h.1,fun i=>by rcases h.2 i with e | e;exact .inr (by simpa using e);exact .inl e⟩
theorem Mix.trans {H H1 H2:List Ob} {I J:List Nat} (h:Mix H H1 I) (k:Mix H1 H2 J):Mix H H2 (I++J):=by
 refine ⟨k.1.trans h.1,fun i=>?_⟩
 rcases k.2 i with e | e
 ·exact .inl e
 ·rcases h.2 i with e' | e'
  ·left;rw [e,e'];split<;>rfl
  ·right
   rw [e,e']
   by_cases h1:i∈I<;>by_cases h2:i∈J<;>simp [h1,h2,frz_frz]
theorem alive_frz (o:Ob):alive (frz o)=alive o:=by cases o<;>rfl
theorem Mix.alive {H H':List Ob} {I:List Nat} (h:Mix H H' I) {i:Nat} (ha:alive (obAt H' i)=true):alive (obAt H i)=true:=by
 rcases h.2 i with e | e
 ·rw [e] at ha;cases ha
 ·rw [e] at ha;split at ha
  ·rwa [alive_frz] at ha
  ·exact ha
theorem Mix.ow {H H':List Ob} {I:List Nat} (h:Mix H H' I) {i:Nat} {wr:Bool} {sz:Nat} {ds:List D} (e:obAt H' i = .ow wr sz ds):∃ wr',obAt H i = .ow wr' sz ds:=by
 rcases h.2 i with e' | e'
 ·rw [e] at e';cases e'
 ·rw [e] at e'
  split at e'
  ·cases ho:obAt H i with
   | ow wr' sz' ds'=>rw [ho] at e';simp only [frz,Ob.ow.injEq] at e';exact ⟨wr',by rw [e'.2.1,e'.2.2]⟩
   | _=>rw [ho] at e';simp [frz] at e'
  ·exact ⟨wr,e'.symm⟩
section
variable {fid:Nat→FuncId} {w0:World} {A0:Av} {Cb:Nat→Prop} {nt:Nt} {w w':World} {A A' Ac:Av} {ι ι':Io} {a:Act} {E:Env} {H H':List Ob} {own:Nat→List Nat}
theorem frz_ok {q:Option (Option Nat)} {o:Ob} (h:ObjOK fid w A ι q o):ObjOK fid w A ι q (frz o):=by
 cases o with
 | ow wr sz ds =>
  rcases h with h | ⟨b,e,cs,T,fr,vs,h1,h2,h3,h4,h5,h6,h7,h8⟩
  ·exact .inl h
  ·exact .inr ⟨b,e,cs,T,fr,vs,h1,h2,h3,h4,h5,h6,(by intro x;cases x),h8⟩
 | _=>exact h
theorem Mix.ob {I:List Nat} (h:Mix H H' I) (hob:∀ i,ObjOK fid w A ι (ι i) (obAt H i)):∀ i,ObjOK fid w A ι (ι i) (obAt H' i):=by
 intro i
 rcases h.2 i with e | e
 ·rw [e];trivial
 ·rw [e];split
  ·exact frz_ok (hob i)
  ·exact hob i
theorem Mix.inj {I:List Nat} (h:Mix H H' I) (k:Inj ι H):Inj ι H':=fun i j b h1 h2=>k i j b (h.alive h1) (h.alive h2)
def Fz (ι:Io) (H:List Ob) (I:List Nat) (b off:Nat):Prop:=∃ (i:Nat) (wr:Bool) (sz:Nat) (ds:List D),i∈I∧ι i=some (some b)∧obAt H i = .ow wr sz ds∧off<ds.length*sz
def less (A:Av) (ι:Io) (H:List Ob) (I:List Nat):Av:=fun b off=>A b off∧¬Fz ι H I b off
theorem less_le (A:Av) (ι:Io) (H:List Ob) (I:List Nat):∀ b off,less A ι H I b off→A b off:=fun b off h=>h.1
theorem less_out (A:Av) (ι:Io) (H:List Ob) (I:List Nat):RowsOut (less A ι H I) ι H I:=fun i b wr sz ds off hi hb ho hlt h=>h.2 ⟨i,wr,sz,ds,hi,hb,ho,hlt⟩
def FzB (ι:Io) (H:List Ob) (I:List Nat) (b:Nat):Prop:=∃ (i:Nat) (wr:Bool) (sz:Nat) (ds:List D),i∈I∧ι i=some (some b)∧obAt H i = .ow wr sz ds
theorem less_keep (w:World) (A:Av) (ι:Io) (H:List Ob) (I:List Nat):Keep w w A (less A ι H I) (FzB ι H I) :=
 ⟨rfl,rfl,rfl,Nat.le_refl _,fun _ _ _=>rfl,fun _ _ _ _ h=>h,fun b cs T fr h=>⟨cs,fr,h,rfl⟩,fun b off h=> .inl h.1,fun b off hb _ h=>⟨h,fun ⟨i,wr,sz,ds,h1,h2,h3,_⟩=>hb ⟨i,wr,sz,ds,h1,h2,h3⟩⟩⟩
theorem St.inj (S:St fid w0 A0 Cb nt w A ι a E H own):Inj ι H:=S.sp.inj
theorem St.freeze {I:List Nat} (S:St fid w0 A0 Cb nt w A ι a E H own) (M:Mix H H' I):St fid w0 A0 Cb nt w (less A ι H I) ι a E H' own:=by
 have K:=less_keep w A ι H I
 have hCb:∀ b,FzB ι H I b→Cb b:=by
  rintro b ⟨i,wr,sz,ds,h1,h2,h3⟩
  exact S.sp.ib i b (by rw [h3];rfl) h2
 refine ⟨S.kp.trans K (fun b h=> .inl h) (fun b h=> .inl (hCb b h)),fun b off h=>S.al b off h.1,S.cb,S.sz,S.fx,S.df,fun t=>?_,fun i=>?_,⟨fun i hi=>S.sp.len i (by rw [←M.1];exact hi),fun i b ha=>S.sp.ib i b (M.alive ha),M.inj S.inj,S.sp.tb,fun t b i h ha=>S.sp.to t b i h (M.alive ha),S.sp.nd,S.sp.ap⟩⟩
 ·refine LV.keep K (fun _ _ e=>e) (S.lv t) ?_
  rintro b hb ⟨i,wr,sz,ds,h1,h2,h3⟩
  exact S.sp.to t b i hb (by rw [h3];rfl) h2
 ·rcases M.2 i with e | e
  ·rw [e];trivial
  ·rw [e]
   by_cases hi:i∈I
   ·rw [if_pos hi]
    cases ho:obAt H i with
    | ow wr sz ds =>
     have h:=S.ob i
     rw [ho] at h
     rcases h with h | ⟨b,eb,cs,T,fr,vs,h1,h2,h3,h4,h5,h6,h7,h8⟩
     ·exact .inl h
     ·refine .inr ⟨b,eb,cs,T,fr,vs,h1,h2,h3,LVs.keep K (fun _ _ e=>e) h4 (by simp),h5,h6,(by intro x;cases x),fun off ho'=>⟨h8 off ho',?_⟩⟩
      rintro ⟨j,wr',sz',ds',g1,g2,g3,g4⟩
      have:=S.sp.inj i j b (by rw [ho];rfl) (by rw [g3];rfl) eb g2
      subst this
      rw [ho] at g3
      simp only [Ob.ow.injEq] at g3
      obtain ⟨_,rfl,rfl⟩:=g3
      rw [h4.length_eq,flat_len h3] at ho'
      omega
    | bx ds =>
     have h:=(S.ob i).keep K (fun _ _ e=>e) (by
      rintro b ha hb ⟨j,wr',sz',ds',g1,g2,g3⟩
      have:=S.sp.inj i j b ha (by rw [g3];rfl) hb g2
      subst this
      rw [ho] at g3;cases g3)
     rw [ho] at h;exact h
    | mpo ks xs =>
     have h:=(S.ob i).keep K (fun _ _ e=>e) (by
      rintro b ha hb ⟨j,wr',sz',ds',g1,g2,g3⟩
      have:=S.sp.inj i j b ha (by rw [g3];rfl) hb g2
      subst this
      rw [ho] at g3;cases g3)
     rw [ho] at h;exact h
    | dead=>trivial
   ·rw [if_neg hi]
    refine (S.ob i).keep K (fun _ _ e=>e) ?_
    rintro b ha hb ⟨j,wr',sz',ds',g1,g2,g3⟩
    have:=S.sp.inj i j b ha (by rw [g3];rfl) hb g2
    subst this
    exact hi g1
structure Free (Cb:Nat→Prop) (ι:Io) (H:List Ob) (own:Nat→List Nat) (O:List Nat):Prop where
 nd:O.Nodup
 cb:∀ b,b∈O→Cb b
 ow:∀ b,b∈O→∀ t,b∉own t
 ob:∀ b,b∈O→∀ i,alive (obAt H i)=true→ι i≠some (some b)
theorem St.world {O:List Nat} (S:St fid w0 A0 Cb nt w A ι a E H own) (F:Free Cb ι H own O) (K:Keep w w' A A' (fun b=>b∈O)):St fid w0 A0 Cb nt w' A' ι a E H own:=by
 refine ⟨S.kp.trans K (fun b h=> .inl h) (fun b h=> .inl (F.cb b h)),fun b off h=>?_,S.cb,S.sz,S.fx,S.df,fun t=>?_,fun i=>?_,S.sp⟩
 ·rcases K.a1 b off h with h | h
  ·exact Nat.lt_of_lt_of_le (S.al b off h) K.size
  ·exact h.2
 ·exact LV.keep K (fun _ _ e=>e) (S.lv t) (fun b hb hO=>F.ow b hO t hb)
 ·exact (S.ob i).keep K (fun _ _ e=>e) (fun b ha hb hO=>F.ob b hO i ha hb)
theorem St.new {O:List Nat} (S:St fid w0 A0 Cb nt w A ι a E H own) (F:Free Cb ι H own O) (N:New fid w A ι ι' H H' O):St fid w0 A0 Cb nt w A ι' a E H' own:=by
 have hext:=N.ext S.sp.len
 have hobO:∀ i,i<H.length→obAt H' i=obAt H i:=fun i hi=>by unfold obAt;rw [N.pre i hi]
 refine ⟨S.kp,S.al,S.cb,S.sz,S.fx,S.df,fun t'=>LV.keep (Keep.refl w A (fun _=>False)) hext (S.lv t') (by simp),fun i=>?_,⟨N.out,fun i b ha hi=>?_,fun i j b ha hb hi hj=>?_,S.sp.tb,fun t' b i h ha hi=>?_,S.sp.nd,S.sp.ap⟩⟩
 ·rcases Nat.lt_or_ge i H.length with hl | hl
  ·rw [hobO i hl,N.io i hl]
   exact (S.ob i).keep (Keep.refl w A (fun _=>False)) hext (by simp)
  ·rcases Nat.lt_or_ge i H'.length with hl2 | hl2
   ·exact (N.ok i hl hl2).1
   ·rw [obAt_ge hl2];trivial
 ·rcases Nat.lt_or_ge i H.length with hl | hl
  ·rw [hobO i hl] at ha;rw [N.io i hl] at hi;exact S.sp.ib i b ha hi
  ·exact F.cb b (N.blk i b hl hi)
 ·rcases Nat.lt_or_ge i H.length with hl | hl
  ·rw [hobO i hl] at ha;rw [N.io i hl] at hi
   rcases Nat.lt_or_ge j H.length with hl2 | hl2
   ·rw [hobO j hl2] at hb;rw [N.io j hl2] at hj
    exact S.sp.inj i j b ha hb hi hj
   ·exact (F.ob b (N.blk j b hl2 hj) i ha hi).elim
  ·rcases Nat.lt_or_ge j H.length with hl2 | hl2
   ·rw [hobO j hl2] at hb;rw [N.io j hl2] at hj
    exact (F.ob b (N.blk i b hl hi) j hb hj).elim
   ·exact N.inj i j b hl hl2 hi hj
 ·rcases Nat.lt_or_ge i H.length with hl | hl
  ·rw [hobO i hl] at ha;rw [N.io i hl] at hi
   exact S.sp.to t' b i h ha hi
  ·exact F.ow b (N.blk i b hl hi) t' h
theorem Free.rest {O1 O2:List Nat} (S:St fid w0 A0 Cb nt w A ι a E H own) (F:Free Cb ι H own (O1++O2)) (N:New fid w A ι ι' H H' O1):Free Cb ι' H' own O2:=by
 obtain ⟨_,n2,n3⟩:=List.nodup_append.1 F.nd
 refine ⟨n2,fun b hb=>F.cb b (by simp [hb]),fun b hb=>F.ow b (by simp [hb]),fun b hb i ha hi=>?_⟩
 rcases Nat.lt_or_ge i H.length with hl | hl
 ·have:obAt H' i=obAt H i:=by unfold obAt;rw [N.pre i hl]
  rw [this] at ha;rw [N.io i hl] at hi
  exact F.ob b (by simp [hb]) i ha hi
 ·exact n3 b (N.blk i b hl hi) b hb rfl
theorem Free.left {O1 O2:List Nat} (F:Free Cb ι H own (O1++O2)):Free Cb ι H own O1 :=
 ⟨(List.nodup_append.1 F.nd).1,fun b hb=>F.cb b (by simp [hb]),fun b hb=>F.ow b (by simp [hb]),fun b hb=>F.ob b (by simp [hb])⟩
theorem St.absorb {O:List Nat} {v:Value} {d:D} {r:Bool} (S:St fid w0 A0 Cb nt w A ι a E H own) (F:Free Cb ι H own O) (l:LV fid w A ι r v d O) :
  ∃ ι',New fid w A ι ι' H (unf d H).2 O∧LV fid w A ι' true v (unf d H).1 []∧St fid w0 A0 Cb nt w A ι' a E (unf d H).2 own:=by
 obtain ⟨ι',N,l'⟩:=unf_sound_both l ι H (fun _ _ h=>h) S.sp.len F.nd
 exact ⟨ι',N,l',S.new F N⟩
theorem St.revive {id b:Nat} {o:Ob} (S:St fid w0 A0 Cb nt w A ι a E H own) (hlt:id<H.length) (hd:alive (obAt H id)=false) (hi:ι id=some (some b)) (hok:ObjOK fid w A ι (some (some b)) o) (hcb:Cb b) (how:∀ t,b∉own t)
  (hob:∀ i,alive (obAt H i)=true→ι i≠some (some b)):St fid w0 A0 Cb nt w A ι a E (H.set id o) own:=by
 have hset:∀ i,obAt (H.set id o) i=if id=i then o else obAt H i:=by
  intro i;rw [obAt_set]
  by_cases e:id=i
  ·subst e;simp [hlt]
  ·simp [e]
 refine ⟨S.kp,S.al,S.cb,S.sz,S.fx,S.df,S.lv,fun i=>?_,⟨fun i h=>S.sp.len i (by simpa using h),fun i b' ha h=>?_,fun i j b' h1 h2 h3 h4=>?_,S.sp.tb,fun t b' i h ha hh=>?_,S.sp.nd,S.sp.ap⟩⟩
 ·rw [hset]
  split
  ·rename_i e;subst e;rw [hi];exact hok
  ·exact S.ob i
 ·rw [hset] at ha
  split at ha
  ·rename_i e;subst e;rw [hi] at h;injection h with h;injection h with h;subst h;exact hcb
  ·exact S.sp.ib i b' ha h
 ·rw [hset] at h1 h2
  split at h1
  ·rename_i e;subst e
   split at h2
   ·rename_i e;exact e
   ·rw [hi] at h3;injection h3 with h3;injection h3 with h3;subst h3
    exact (hob j h2 h4).elim
  ·split at h2
   ·rename_i e;subst e
    rw [hi] at h4;injection h4 with h4;injection h4 with h4;subst h4
    exact (hob i h1 h3).elim
   ·exact S.sp.inj i j b' h1 h2 h3 h4
 ·rw [hset] at ha
  split at ha
  ·rename_i e;subst e
   rw [hi] at hh;injection hh with hh;injection hh with hh;subst hh
   exact how t h
  ·exact S.sp.to t b' i h ha hh
theorem St.put {dst:Option Nat} {v:Value} {d:D} (S:St fid w0 A0 Cb nt w A ι a E H own) (hd:∀ t,dst=some t→nt.1 t=true) (l:LV fid w A ι true v d []):St fid w0 A0 Cb nt w A ι (a.put dst v) (putE dst d E) H (put1 own dst []):=by
 have h:=S.step (eat:=none) (u:=none) (XR.val (eo:=[]) l) hd
 have e:put1 own none []=own:=by funext t;simp [put1]
 rw [e] at h
 exact h
theorem St.lk {E':Env} (S:St fid w0 A0 Cb nt w A ι a E H own) (h:∀ t,lk E t=lk E' t):St fid w0 A0 Cb nt w A ι a E' H own :=
 ⟨S.kp,S.al,S.cb,S.sz,S.fx,S.df,fun t=>by rw [←h t];exact S.lv t,S.ob,S.sp⟩
end
end Lg
namespace Lg
open Go
set_option linter.unusedVariables false
set_option linter.unusedSimpArgs false
set_option linter.unusedSectionVars false
def isPt:D→Bool
 | .pt ..=>true
 | _=>false
def ptVals:List Value→List D→List Value
 | v :: vs,d :: ds=>if isBx d then v :: ptVals vs ds else ptVals vs ds
 | _,_=>[]
def SoundFn (P:Program) (fid:Nat→FuncId) (f:FuncId) (m:List D→Option (D×List D)):Prop :=
 ∀ (ds:List D) (r:D) (outs:List D),m ds=some (r,outs)→∀ (w:World) (A:Av) (vs:List Value) (O:List Nat),LVs fid w A (fun _=>none) false vs ds O→O.Nodup→(∀ b off,A b off→b<w.heap.size) →
  Calls P f ⟨vs⟩ w (fun e w'=>∃ v A' O',e = .returned v∧Keep w w' A A' (fun b=>b∈O)∧LVs fid w' A' (fun _=>none) false (v :: ptVals vs ds) (r :: outs) O'∧O'.Nodup∧∀ b,b∈O'→b∈O∨w.heap.size≤b)
section
variable {fid:Nat→FuncId} {w:World} {A Ac:Av} {ι ι':Io}
theorem LV.narrowO (hA:∀ b off,Ac b off→A b off):∀ {r:Bool} {v:Value} {d:D} {O:List Nat},LV fid w A ι r v d O→(∀ b,b∈O→∀ off,A b off→Ac b off)→LV fid w Ac ι r v d O:=by
 intro r v d O h
 refine LV.rec (motive_1:=fun r v d O _=>(∀ b,b∈O→∀ off,A b off→Ac b off)→LV fid w Ac ι r v d O) (motive_2:=fun r vs ds O _=>(∀ b,b∈O→∀ off,A b off→Ac b off)→LVs fid w Ac ι r vs ds O)
  ?_ ?_ ?_ ?_ ?_ ?_ ?_ ?_ ?_ ?_ ?_ ?_ ?_ ?_ ?_ ?_ ?_ ?_ ?_ h
 ·intro r v h _;exact .sc v h
 ·intro r v _;exact .un v
 ·intro r v h _;exact .uk v h
 ·intro r _;exact .nl
 ·intro r a _;exact .sn a
 ·intro r f vs ds O _ ih e;exact .fn f vs ds O (ih e)
 ·intro r vs ds O _ ih e;exact .agg vs ds O (ih e)
 ·intro r vs ds O _ ih e;exact .tup vs ds O (ih e)
 ·intro r a n cap sz ds vs hn hc hu h h1 hr ih _
  exact .sl a n cap sz ds vs hn hc hu (ih (by simp)) h1 (fun k v hk=>by obtain ⟨ad,e,n,c⟩:=hr k v hk;exact ⟨ad,e,fun x=>n (hA _ _ x),c⟩)
 ·intro r ad ds vs h h1 hr ih _
  exact .ep ad ds vs (ih (by simp)) h1 (fun k v hk=>⟨fun x=>(hr k v hk).1 (hA _ _ x),(hr k v hk).2⟩)
 ·intro r a wr sz _;exact .osln a wr sz
 ·intro r b cap sz wr ds vs cs T fr hb hf hu h h1 hr hc hs ha hA' ih e
  exact .osl b cap sz wr ds vs cs T fr hb hf hu (ih (by simp)) h1 hr hc hs (fun x off=>e b (by simp) off (ha x off)) (fun off ho=>e b (by simp) off (hA' off ho))
 ·intro r b vs ds O T fr hb hf _ h1 hA' ih e;exact .obx b vs ds O T fr hb hf (ih (fun x hx=>e x (by simp [hx]))) h1 (fun off=>e b (by simp) off (hA' off))
 ·intro r b es c ks xs hb _ _ hA' ih1 ih2 e;exact .omp b es c ks xs hb (ih1 (by simp)) (ih2 (by simp)) (fun off=>e b (by simp) off (hA' off))
 ·intro a id sz off len cap q hi h0 h1 e;exact .rf a id sz off len cap q hi h0 h1
 ·intro id sz e off b hi e';exact .pt id sz e off b hi
 ·intro id b hi e;exact .mp id b hi
 ·intro r _;exact .nil
 ·intro r v d O vs ds Os _ _ ih1 ih2 e
  exact .cons v d O vs ds Os (ih1 fun b hb=>e b (by simp [hb])) (ih2 fun b hb=>e b (by simp [hb]))
theorem isBx_rof {fz:Bool} {d d':D} {H H':List Ob} (h:rof fz d H=some (d',H')):isBx d'=false:=by
 cases d<;>simp only [rof] at h
 case rf =>
  split at h
  ·split at h
   ·injection h with h;simp only [Prod.mk.injEq] at h;rw [←h.1];rfl
   ·cases h
  ·cases h
 case osl =>
  split at h
  ·cases h
  ·injection h with h;simp only [Prod.mk.injEq] at h;rw [←h.1];rfl
 case agg=>obtain ⟨p,_,e⟩:=Option.map_eq_some_iff.1 h;simp only [Prod.mk.injEq] at e;rw [←e.1];rfl
 case tup=>obtain ⟨p,_,e⟩:=Option.map_eq_some_iff.1 h;simp only [Prod.mk.injEq] at e;rw [←e.1];rfl
 case fn=>obtain ⟨p,_,e⟩:=Option.map_eq_some_iff.1 h;simp only [Prod.mk.injEq] at e;rw [←e.1];rfl
 all_goals first | (cases h;done) | (injection h with h;simp only [Prod.mk.injEq] at h;rw [←h.1];rfl)
theorem isBx_fld_pt {n:Nat} {id sz e off:Nat} {d':D} {H H':List Ob} (h:fld n (.pt id sz e off) H=some (d',H')):isBx d'=true:=by
 cases n with
 | zero=>simp [fld] at h
 | succ n =>
  simp only [fld] at h
  split at h
  ·split at h
   ·obtain ⟨p,_,e⟩:=Option.map_eq_some_iff.1 h;simp only [Prod.mk.injEq] at e;rw [←e.1];rfl
   ·cases h
  ·cases h
theorem args_sound {fz:Bool}:∀ (as:List D) (vs:List Value) (ts:List D) (H H1:List Ob),LVs fid w A ι true vs as []→(∀ i,ObjOK fid w A ι (ι i) (obAt H i))→Inj ι H→thr (argF fz) as H=some (ts,H1) →
  ts.map isBx=as.map isPt∧∃ O,Mix H H1 (if fz then idsRO as else [])∧Taken ι H H1 O∧O.Nodup ∧
   ∀ Ac:Av,(∀ b off,Ac b off→A b off)→RowsOut Ac ι H (idsRO as)→(∀ b,b∈O→∀ off,A b off→Ac b off)→LVs fid w Ac (fun _=>none) false vs ts O
 | [],[],ts,H,H1,h,_,_,e=>by
  simp [thr] at e
  obtain ⟨rfl,rfl⟩:=e
  exact ⟨rfl,[],(Frz.nil (by simp [idsRO])).mix,by intro b hb;simp at hb,List.nodup_nil,fun _ _ _ _=> .nil⟩
 | [],_ :: _,ts,H,H',h,_,_,e=>by cases h
 | _ :: _,[],ts,H,H',h,_,_,e=>by cases h
 | d :: as,v :: vs,ts,H,H2,h,hob,hi,e=>by
  simp only [thr] at e
  obtain ⟨⟨d1,H1⟩,e1,e⟩:=Option.bind_eq_some_iff.1 e
  obtain ⟨⟨ds2,H2'⟩,e2,e⟩:=Option.map_eq_some_iff.1 e
  simp only [Prod.mk.injEq] at e
  obtain ⟨rfl,rfl⟩:=e
  have one:isBx d1=isPt d∧∃ O,Mix H H1 (if fz then idsRO [d] else [])∧Taken ι H H1 O∧O.Nodup ∧
    ∀ Ac:Av,(∀ b off,Ac b off→A b off)→RowsOut Ac ι H (idsRO [d])→(∀ b,b∈O→∀ off,A b off→Ac b off)→LV fid w Ac (fun _=>none) false v d1 O:=by
   have rest:isPt d=false→idsRO [d]=idsD d→argF fz d H=rof fz d H→_:=fun hp hids he=>by
    rw [he] at e1
    have hb:=isBx_rof e1
    refine (⟨by rw [hb,hp],[],?_,by intro b hb;simp at hb,List.nodup_nil,fun Ac hA hR _=>?_⟩:isBx d1=isPt d∧∃ O,Mix H H1 (if fz then idsRO [d] else [])∧Taken ι H H1 O∧O.Nodup ∧
     ∀ Ac:Av,(∀ b off,Ac b off→A b off)→RowsOut Ac ι H (idsRO [d])→(∀ b,b∈O→∀ off,A b off→Ac b off)→LV fid w Ac (fun _=>none) false v d1 O)
    ·have:=(rof_sound (fid:=fid) (w:=w) (A:=A) (Ac:=fun _ _=>False) (ι:=ι) (ι':=fun _=>none) (fz:=fz) (by simp) h.uncons.1 H H1 d1 (owOK hob) (by intro _ _ _ _ _ _ _ _ _ _ x;exact x) (by simp) e1).2
     rw [hids];exact this.mix
    ·rw [hids] at hR
     exact (rof_sound hA h.uncons.1 H H1 d1 (owOK hob) hR (by simp) e1).1
   cases d with
   | pt id sz e' off =>
    have hb:=isBx_fld_pt e1
    obtain ⟨O,l,n1,g1,t1⟩:=fld_sound (ι':=fun _=>none) depth v _ d1 H H1 h.uncons.1 hob hi e1
    refine ⟨hb,O,?_,t1,n1,fun Ac hA _ hO=>l.narrowO hA hO⟩
    have:=g1.mix
    simpa [idsRO] using this
   | _=>exact rest rfl (by simp [idsRO]) rfl
  obtain ⟨k1,O1,m1,t1,n1,l1⟩:=one
  obtain ⟨k2,O2,m2,t2,n2,l2⟩:=args_sound as vs ds2 H1 H2' h.uncons.2 (m1.ob hob) (m1.inj hi) e2
  have hap:∀ b,b∈O1→b∉O2:=by
   intro b hb1 hb2
   obtain ⟨i,f1,f2,f3⟩:=t1 b hb1
   obtain ⟨j,g1,g2,g3⟩:=t2 b hb2
   have:=hi i j b f2 (m1.alive g2) f1 g1
   subst this
   rw [f3] at g2;cases g2
  have hids:idsRO (d :: as)=idsRO [d]++idsRO as:=by cases d<;>simp [idsRO]
  refine ⟨by simp [k1,k2],O1++O2,?_,?_,List.nodup_append.2 ⟨n1,n2,fun a ha b hb e=>hap a ha (e▸hb)⟩,fun Ac hA hR hO=>?_⟩
  ·have:=m1.trans m2
   rw [hids]
   cases fz<;>simpa using this
  ·intro b hb
   rcases List.mem_append.1 hb with hb | hb
   ·obtain ⟨i,f1,f2,f3⟩:=t1 b hb
    refine ⟨i,f1,f2,?_⟩
    rcases m2.2 i with e | e
    ·exact e
    ·rw [e,f3];by_cases hq:i∈(if fz=true then idsRO as else [])<;>simp [hq,frz]
   ·obtain ⟨i,f1,f2,f3⟩:=t2 b hb
    exact ⟨i,f1,m1.alive f2,f3⟩
  ·refine .cons v d1 O1 vs ds2 O2 (l1 Ac hA (fun i b wr sz ds off hi=>hR i b wr sz ds off (by rw [hids];simp [hi])) fun b hb=>hO b (by simp [hb])) (l2 Ac hA ?_ fun b hb=>hO b (by simp [hb]))
   intro i b wr sz ds off hi hb ho hlt
   obtain ⟨wr',ho'⟩:=m1.ow ho
   exact hR i b wr' sz ds off (by rw [hids];simp [hi]) hb ho' hlt
end
end Lg
namespace Lg
open Go
set_option linter.unusedVariables false
set_option linter.unusedSimpArgs false
set_option linter.unusedSectionVars false
section
variable {P:Program} {fid:Nat→FuncId} {w0:World} {A0:Av} {Cb:Nat→Prop} {nt:Nt} {w w':World} {A A' Ac:Av} {ι ι':Io} {a:Act} {E:Env} {H H':List Ob} {own:Nat→List Nat}
theorem LV.inv_obx {r:Bool} {v:Value} {ds:List D} {O:List Nat} (h:LV fid w A ι r v (.obx ds) O):∃ b vs O1 T fr,v = .pointer (some ⟨b,0,none⟩)∧O=b :: O1∧w.heap[b]? = some (.cells ⟨vs⟩ T fr)∧okfr vs.length fr∧LVs fid w A ι r vs ds O1∧(∀ v,v∈vs→v.oneCell'=true)∧∀ off,A b off:=by
 cases h with | obx b vs _ O T fr hb hf h h1 hA=>exact ⟨b,vs,O,T,fr,rfl,rfl,hb,hf,h,h1,hA⟩
theorem callQ_sound {f:FuncId} {fz:Bool} {m:List D→Option (D×List D)} (hS:SoundFn P fid f m) {as:List D} {vs:List Value} {O:List Nat} {d:D} {eo:List Nat} (l:LVs fid w A ι true vs as O) (hob:∀ i,ObjOK fid w A ι (ι i) (obAt H i)) (hal:∀ b off,A b off→b<w.heap.size)
  (h:callQ fz m as H=some d):Calls P f ⟨vs⟩ w (fun e w'=>∃ v A' O',e = .returned v∧XR fid w w' A A' ι H eo v d none O'):=by
 unfold callQ at h
 obtain ⟨ts,h1,h2⟩:=Option.bind_eq_some_iff.1 h
 split at h2
 ·rename_i r hm
  split at h2
  ·rename_i hpl
   injection h2 with h2;subst h2
   cases fz with
   | true =>
    simp only [if_true] at h1
    split at h1
    ·rename_i hro
     injection h1 with h1;subst h1
     have l1:=(l.ro hro).weak (ι':=fun _=>none) (r:=false)
     refine Calls.mono (hS as r [] hm w A vs [] l1 List.nodup_nil hal) fun e w' he=>?_
     obtain ⟨v,A',O',rfl,K,lr,nd,fr⟩:=he
     cases lr with
     | cons _ _ O1 _ _ O2 lv ls =>
      have hp:ptVals vs as=[]:=by
       cases hh:ptVals vs as with
       | nil=>rfl
       | cons x xs=>rw [hh] at ls;cases ls
      rw [hp] at ls
      cases ls
      refine ⟨v,A',_,rfl,⟨K.mono (by simp),lv.weak,(by intro i o e;cases e),by simpa using (List.nodup_append.1 nd).1,fun b hb=>?_⟩⟩
      have:=fr b (by simp [hb])
      simp at this
      exact .inr (.inr this)
    ·cases h1
   | false =>
    simp only [Bool.false_eq_true,if_false,Bool.false_or] at h1 hpl
    obtain ⟨⟨ts',H1⟩,e1,e2⟩:=Option.map_eq_some_iff.1 h1
    simp only at e2;subst e2
    have hro:rof false (.agg as) H=some (.agg ts',H1):=by simp [rof,e1]
    have lz:=(rof_sound (fid:=fid) (w:=w) (A:=A) (Ac:=fun _ _=>False) (ι:=ι) (ι':=fun _=>none) (fz:=false) (by simp) (LV.agg vs as O l) H H1 (.agg ts') (owOK hob) (by intro _ _ _ _ _ _ _ _ _ _ x;exact x) (by simp) hro).1
    obtain ⟨vs',e0,lz'⟩:=lz.inv_agg
    simp only [Value.agg.injEq,Array.mk.injEq] at e0
    subst e0
    refine Calls.mono (hS ts' r [] hm w (fun _ _=>False) vs [] lz' List.nodup_nil (by simp)) fun e w' he=>?_
    obtain ⟨v,A',O',rfl,K,lr,nd,fr⟩:=he
    cases lr with
    | cons _ _ O1 _ _ O2 lv ls =>
     have hp:ptVals vs ts'=[]:=by
      cases hh:ptVals vs ts' with
      | nil=>rfl
      | cons x xs=>rw [hh] at ls;cases ls
     rw [hp] at ls
     cases ls
     have K2:Keep w w' A (fun b off=>A b off∨A' b off) (fun b=>b∈([]:List Nat)):=by
      refine ⟨K.os,K.tape,K.output,K.size,K.blk,fun b off v _ hc=>K.cel b off v (by simp) hc,K.siz,fun b off hh=>?_,fun b off _ _ hh=> .inl hh⟩
      rcases hh with hh | hh
      ·exact .inl hh
      ·rcases K.a1 b off hh with x | x
       ·cases x
       ·exact .inr x
     refine ⟨v,_,_,rfl,⟨K2.mono (by simp),((LV.wide_both (fun b off hh=> .inr hh)).1 lv hpl).weak,(by intro i o e;cases e),by simpa using (List.nodup_append.1 nd).1,fun b hb=>?_⟩⟩
     have:=fr b (by simp [hb])
     simp at this
     exact .inr (.inr this)
  ·cases h2
 ·cases h2
theorem restore_sound:∀ (as:List D) (vs:List Value) (ts outs:List D) {ι:Io} {H H':List Ob} {O:List Nat} {w1:World} {A1:Av} {ι1:Io},LVs fid w1 A1 ι1 true vs as []→(∀ i q,ι1 i=some q→ι i=some q)→ts.map isBx=as.map isPt →
  St fid w0 A0 Cb nt w A ι a E H own→LVs fid w A (fun _=>none) false (ptVals vs ts) outs O→Free Cb ι H own O→restore as outs H=some H'→∃ ι',St fid w0 A0 Cb nt w A ι' a E H' own∧∀ i q,ι i=some q→ι' i=some q
 | [],[],ts,outs,ι,H,H',O,w1,A1,ι1,l,hι,hk,S,lo,F,h=>by
  cases outs with
  | nil=>simp [restore] at h;subst h;exact ⟨ι,S,fun _ _ h=>h⟩
  | cons=>simp [restore] at h
 | [],_ :: _,ts,outs,ι,H,H',O,w1,A1,ι1,l,hι,hk,S,lo,F,h=>by cases l
 | _ :: _,[],ts,outs,ι,H,H',O,w1,A1,ι1,l,hι,hk,S,lo,F,h=>by cases l
 | d :: as,v :: vs,[],outs,ι,H,H',O,w1,A1,ι1,l,hι,hk,S,lo,F,h=>by simp at hk
 | d :: as,v :: vs,t :: ts,outs,ι,H,H',O,w1,A1,ι1,l,hι,hk,S,lo,F,h=>by
  simp only [List.map_cons,List.cons.injEq] at hk
  obtain ⟨hk1,hk2⟩:=hk
  by_cases hp:isPt d=true
  ·cases d<;>simp [isPt] at hp
   rename_i id sz e off
   simp only [isPt] at hk1
   simp only [ptVals,hk1,if_true] at lo
   cases outs with
   | nil=>simp [restore] at h
   | cons x outs =>
    cases x<;>simp only [restore] at h<;>try (cases h;done)
    rename_i ds
    obtain ⟨b,hb,rfl,_⟩:=l.uncons.1.inv_pt
    have hb':=hι _ _ hb
    cases lo with
    | cons _ _ O1 _ _ O2 lv ls =>
     obtain ⟨b',ws,O1',T,fr,ev,rfl,hheap,hfr,lw,h1,hA⟩:=lv.inv_obx
     simp only [Value.pointer.injEq,Option.some.injEq,Addr.mk.injEq] at ev
     obtain ⟨rfl,_,_⟩:=ev
     ·skip
      have F0:Free Cb ι H own (b :: O1'):=F.left
      have F1:Free Cb ι H own O1':=⟨(List.nodup_cons.1 F0.nd).2,fun x hx=>F0.cb x (by simp [hx]),fun x hx=>F0.ow x (by simp [hx]),fun x hx=>F0.ob x (by simp [hx])⟩
      have hbn:=(List.nodup_cons.1 F0.nd).1
      have hlt:id<H.length:=by
       rcases Nat.lt_or_ge id H.length with hl | hl
       ·exact hl
       ·rw [S.sp.len id hl] at hb';cases hb'
      have hdead:alive (obAt H id)=false:=by
       cases hx:alive (obAt H id) with
       | false=>rfl
       | true=>exact (F0.ob b (by simp) id hx hb').elim
      obtain ⟨ι2,N,l2,S2⟩:=S.absorb (r:=true) F1 (LV.agg ws ds O1' lw.weak)
      have N':New fid w A ι ι2 H (unfs ds H).2 O1':=N
      have S2':St fid w0 A0 Cb nt w A ι2 a E (unfs ds H).2 own:=S2
      have l2':LV fid w A ι2 true (.agg ⟨ws⟩) (.agg (unfs ds H).1) []:=l2
      obtain ⟨ws',e0,l3⟩:=l2'.inv_agg
      simp only [Value.agg.injEq,Array.mk.injEq] at e0
      subst e0
      have hext:=N'.ext S.sp.len
      have hio:ι2 id=some (some b):=by rw [N'.io id hlt];exact hb'
      have hob2:obAt (unfs ds H).2 id=obAt H id:=by unfold obAt;rw [N'.pre id hlt]
      have hfree2:∀ i,alive (obAt (unfs ds H).2 i)=true→ι2 i≠some (some b):=by
       intro i ha hi
       rcases Nat.lt_or_ge i H.length with hl | hl
       ·have:obAt (unfs ds H).2 i=obAt H i:=by unfold obAt;rw [N'.pre i hl]
        rw [this] at ha;rw [N'.io i hl] at hi
        exact F0.ob b (by simp) i ha hi
       ·exact hbn (N'.blk i b hl hi)
      have S3:=S2'.revive (o:= .bx (unfs ds H).1) (Nat.lt_of_lt_of_le hlt N'.le) (by rw [hob2];exact hdead) hio ⟨b,ws,T,fr,rfl,hheap,hfr,l3,h1,hA⟩ (F0.cb b (by simp)) (F0.ow b (by simp)) hfree2
      have F2:Free Cb ι2 ((unfs ds H).2.set id (.bx (unfs ds H).1)) own O2:=by
       have hO2:∀ x,x∈O2→x∉(b :: O1'):=fun x hx hx'=>(List.nodup_append.1 F.nd).2.2 x hx' x hx rfl
       refine ⟨(List.nodup_append.1 F.nd).2.1,fun x hx=>F.cb x (by simp [hx]),fun x hx=>F.ow x (by simp [hx]),fun x hx i ha hi=>?_⟩
       rcases Nat.lt_or_ge i H.length with hl | hl
       ·by_cases e:id=i
        ·subst e
         rw [hio] at hi;injection hi with hi;injection hi with hi;subst hi
         exact hO2 b hx (by simp)
        ·rw [obAt_set,if_neg (by intro q;exact e q.1)] at ha
         have:obAt (unfs ds H).2 i=obAt H i:=by unfold obAt;rw [N'.pre i hl]
         rw [this] at ha;rw [N'.io i hl] at hi
         exact F.ob x (by simp [hx]) i ha hi
       ·exact hO2 x hx (by simp [N'.blk i x hl hi])
      obtain ⟨ι',S',hx⟩:=restore_sound as vs ts outs l.uncons.2 (fun i q hq=>hext i q (hι i q hq)) hk2 S3 ls F2 h
      exact ⟨ι',S',fun i q hq=>hx i q (hext i q hq)⟩
  ·have hp':isPt d=false:=by simpa using hp
   rw [hp'] at hk1
   simp only [ptVals,hk1,Bool.false_eq_true,if_false] at lo
   have hr:restore (d :: as) outs H=restore as outs H:=by cases d<;>simp [isPt] at hp'<;>rfl
   rw [hr] at h
   exact restore_sound as vs ts outs l.uncons.2 hι hk2 S lo F h
theorem call_core {f:FuncId} {fz:Bool} {m:List D→Option (D×List D)} (hS:SoundFn P fid f m) {as:List D} {vs:List Value} {r:D} {outs ts:List D} {ids:List Nat} {H1 H2:List Ob} {O:List Nat} (S:St fid w0 A0 Cb nt w A ι a E H own) (l:LVs fid w A ι true vs as [])
  (hm:m ts=some (r,outs)) (hpl:(fz || (plain r && plains outs))=true) (hal:ids.all (isAlive H1)=true) (h2:restore as outs (unf r H1).2=some H2) (hk:ts.map isBx=as.map isPt) (M:Mix H H1 (if fz then ids else [])) (T:Taken ι H H1 O) (nd:O.Nodup)
  (conv:∀ Ac:Av,(∀ b off,Ac b off→A b off)→RowsOut Ac ι H ids→(∀ b,b∈O→∀ off,A b off→Ac b off)→LVs fid w Ac (fun _=>none) false vs ts O) :
  Calls P f ⟨vs⟩ w (fun e w'=>∃ v A' ι',e = .returned v∧St fid w0 A0 Cb nt w' A' ι' a E H2 own∧LV fid w' A' ι' true v (unf r H1).1 []∧∀ i q,ι i=some q→ι' i=some q):=by
 have hfr:Free Cb ι H1 own O:=by
  refine ⟨nd,fun b hb=>?_,fun b hb t hx=>?_,fun b hb j ha hj=>?_⟩
  ·obtain ⟨i,e1,e2,_⟩:=T b hb;exact S.sp.ib i b e2 e1
  ·obtain ⟨i,e1,e2,_⟩:=T b hb;exact S.sp.to t b i hx e2 e1
  ·obtain ⟨i,e1,e2,e3⟩:=T b hb
   have:=S.inj i j b e2 (M.alive ha) e1 hj
   subst this
   rw [e3] at ha;cases ha
 have hapart:∀ i b wr sz ds,i∈ids→ι i=some (some b)→obAt H i = .ow wr sz ds→b∉O:=by
  intro i b wr sz ds hi hb ho hO
  obtain ⟨j,e1,e2,e3⟩:=T b hO
  have:=S.inj i j b (by rw [ho];rfl) e2 hb e1
  subst this
  rw [List.all_eq_true] at hal
  have:=hal i hi
  unfold isAlive at this
  unfold obAt at e3
  cases hx:H1[i]? with
  | none=>rw [hx] at this;cases this
  | some o=>rw [hx] at this e3;simp at e3;subst e3;cases this
 have main:∀ (Ac A2:Av) (w':World) (A':Av) (O':List Nat) (v:Value),St fid w0 A0 Cb nt w' A2 ι a E H1 own→Keep w w' Ac A' (fun b=>b∈O)→LVs fid w' A2 (fun _=>none) false (v :: ptVals vs ts) (r :: outs) O'→O'.Nodup→(∀ b,b∈O'→b∈O∨w.heap.size≤b) →
   ∃ A' ι',St fid w0 A0 Cb nt w' A' ι' a E H2 own∧LV fid w' A' ι' true v (unf r H1).1 []∧∀ i q,ι i=some q→ι' i=some q:=by
  intro Ac A2 w' A' O' v S' K lr nd' fr'
  have F':Free Cb ι H1 own O':=by
   refine ⟨nd',fun b hb=>?_,fun b hb t hx=>?_,fun b hb j ha hj=>?_⟩
   ·rcases fr' b hb with x | x
    ·exact hfr.cb b x
    ·exact S.cb b (Nat.le_trans S.kp.size x)
   ·rcases fr' b hb with x | x
    ·exact hfr.ow b x t hx
    ·have:=S.own_lt t b hx;omega
   ·rcases fr' b hb with x | x
    ·exact hfr.ob b x j ha hj
    ·have:=S.ob_lt (M.alive ha) hj;omega
  cases lr with
  | cons _ _ O1 _ _ O2 lv ls =>
   obtain ⟨ι2,N,l2,S2⟩:=S'.absorb (r:=true) F'.left lv.weak
   have F2:=F'.rest S' N
   obtain ⟨ι3,S3,hx⟩:=restore_sound as vs ts outs l (N.ext S'.sp.len) hk S2 ls F2 h2
   exact ⟨A2,ι3,S3,LV.keep (Keep.refl w' A2 (fun _=>False)) hx l2 (by simp),fun i q hq=>hx i q (N.ext S'.sp.len i q hq)⟩
 cases fz with
 | true =>
  simp only [if_true] at M
  have SF:=S.freeze M
  have lc:=conv (less A ι H (ids)) (less_le _ _ _ _) (less_out _ _ _ _) (fun b hb off hA=>⟨hA,fun ⟨i,wr,sz,ds,g1,g2,g3,_⟩=>hapart i b wr sz ds g1 g2 g3 hb⟩)
  refine Calls.mono (hS ts r outs hm w _ vs O lc nd (fun b off hh=>S.al b off hh.1)) fun e w' he=>?_
  obtain ⟨v,A',O',rfl,K,lr,nd',fr'⟩:=he
  have SW:=SF.world hfr K
  obtain ⟨A3,ι3,S3,l3,x3⟩:=main _ A' w' A' O' v SW K lr nd' fr'
  exact ⟨v,A3,ι3,rfl,S3,l3,x3⟩
 | false =>
  simp only [Bool.false_eq_true,if_false,Bool.false_or,Bool.and_eq_true] at M hpl
  have SF:St fid w0 A0 Cb nt w A ι a E H1 own:=by
   have:=S.freeze M
   have e:less A ι H []=A:=by funext b off;simp [less,Fz]
   rw [e] at this;exact this
  let Ac:Av:=fun b off=>A b off∧b∈O
  have lc:=conv Ac (fun b off h=>h.1) (fun i b wr sz ds off g1 g2 g3 _ hh=>hapart i b wr sz ds g1 g2 g3 hh.2) (fun b hb off hA=>⟨hA,hb⟩)
  refine Calls.mono (hS ts r outs hm w Ac vs O lc nd (fun b off hh=>S.al b off hh.1)) fun e w' he=>?_
  obtain ⟨v,A',O',rfl,K,lr,nd',fr'⟩:=he
  have K2:Keep w w' A (fun b off=>A b off∨A' b off) (fun b=>b∈O):=by
   refine ⟨K.os,K.tape,K.output,K.size,K.blk,fun b off v hn hc=>K.cel b off v (fun x=>hn x.1) hc,K.siz,fun b off hh=>?_,fun b off _ _ hh=> .inl hh⟩
   rcases hh with hh | hh
   ·exact .inl hh
   ·rcases K.a1 b off hh with x | x
    ·exact .inl x.1
    ·exact .inr x
  have SW:=SF.world hfr K2
  have lr2:LVs fid w' (fun b off=>A b off∨A' b off) (fun _=>none) false (v :: ptVals vs ts) (r :: outs) O':=(LV.wide_both (fun b off hh=> .inr hh)).2 lr (by simp only [plains,Bool.and_eq_true];exact hpl)
  obtain ⟨A3,ι3,S3,l3,x3⟩:=main Ac _ w' A' O' v SW K lr2 nd' fr'
  exact ⟨v,A3,ι3,rfl,S3,l3,x3⟩
theorem callM_sound {f:FuncId} {fz:Bool} {m:List D→Option (D×List D)} (hS:SoundFn P fid f m) {as:List D} {vs:List Value} {d:D} (S:St fid w0 A0 Cb nt w A ι a E H own) (l:LVs fid w A ι true vs as [])
  (h:callM fz m as H=some (d,H')):Calls P f ⟨vs⟩ w (fun e w'=>∃ v A' ι',e = .returned v∧St fid w0 A0 Cb nt w' A' ι' a E H' own∧LV fid w' A' ι' true v d []∧∀ i q,ι i=some q→ι' i=some q):=by
 unfold callM at h
 obtain ⟨⟨ts,H1⟩,h1,h⟩:=Option.bind_eq_some_iff.1 h
 obtain ⟨⟨r,outs⟩,hm,h⟩:=Option.bind_eq_some_iff.1 h
 simp only at hm h
 split at h
 ·rename_i hchk
  simp only [Bool.and_eq_true] at hchk
  obtain ⟨hpl,hal⟩:=hchk
  obtain ⟨H2,h2,h3⟩:=Option.map_eq_some_iff.1 h
  simp only [Prod.mk.injEq] at h3
  obtain ⟨rfl,rfl⟩:=h3
  obtain ⟨hk,O,M,T,nd,conv⟩:=args_sound as vs ts H H1 l S.ob S.inj h1
  exact call_core hS S l hm hpl hal h2 hk M T nd conv
 ·cases h
theorem callO_sound {f:FuncId} {m:List D→Option (D×List D)} (hS:SoundFn P fid f m) {as:List D} {vs:List Value} {d:D} (S:St fid w0 A0 Cb nt w A ι a E H own) (l:LVs fid w A ι true vs as [])
  (h:callO m as H=some (d,H')):Calls P f ⟨vs⟩ w (fun e w'=>∃ v A' ι',e = .returned v∧St fid w0 A0 Cb nt w' A' ι' a E H' own∧LV fid w' A' ι' true v d []∧∀ i q,ι i=some q→ι' i=some q):=by
 unfold callO at h
 split at h
 case h_2=>cases h
 rename_i id sz off len as'
 obtain ⟨⟨t1,H1⟩,h1,h⟩:=Option.bind_eq_some_iff.1 h
 obtain ⟨⟨ts,H2⟩,h2,h⟩:=Option.bind_eq_some_iff.1 h
 obtain ⟨⟨r,outs⟩,hm,h⟩:=Option.bind_eq_some_iff.1 h
 simp only at hm h h2
 split at h
 case isFalse=>cases h
 rename_i hal
 obtain ⟨H3,h3,h4⟩:=Option.map_eq_some_iff.1 h
 simp only [Prod.mk.injEq] at h4
 obtain ⟨rfl,rfl⟩:=h4
 cases vs with
 | nil=>cases l
 | cons v vs =>
  have hb:isBx t1=false:=by
   unfold depth at h1
   simp only [fld] at h1
   split at h1
   ·split at h1
    ·split at h1
     ·injection h1 with h1;simp only [Prod.mk.injEq] at h1;rw [←h1.1];rfl
     ·split at h1
      ·injection h1 with h1;simp only [Prod.mk.injEq] at h1;rw [←h1.1];rfl
      ·cases h1
    ·cases h1
   ·cases h1
  obtain ⟨O1,l1,n1,g1,T1⟩:=fld_sound (ι':=fun _=>none) depth v _ t1 H H1 l.uncons.1 S.ob S.inj h1
  have m1:=g1.mix
  obtain ⟨k2,O2,m2,t2,n2,l2⟩:=args_sound as' vs ts H1 H2 l.uncons.2 (m1.ob S.ob) (m1.inj S.inj) h2
  have hap:∀ b,b∈O1→b∉O2:=by
   intro b hb1 hb2
   obtain ⟨i,f1,f2,f3⟩:=T1 b hb1
   obtain ⟨j,g1,g2,g3⟩:=t2 b hb2
   have:=S.inj i j b f2 (m1.alive g2) f1 g1
   subst this
   rw [f3] at g2;cases g2
  refine call_core (fz:=true) (ids:=idsRO as') (O:=O1++O2) (ts:=t1 :: ts) hS S l hm rfl hal h3 (by simp [hb,k2,isPt]) ?_ ?_ (List.nodup_append.2 ⟨n1,n2,fun a ha b hb e=>hap a ha (e▸hb)⟩) ?_
  ·have:=m1.trans m2
   simpa using this
  ·intro b hb
   rcases List.mem_append.1 hb with hb | hb
   ·obtain ⟨i,f1,f2,f3⟩:=T1 b hb
    refine ⟨i,f1,f2,?_⟩
    rcases m2.2 i with e | e
    ·exact e
    ·rw [e,f3];by_cases hq:i∈(if true=true then idsRO as' else [])<;>simp [hq,frz]
   ·obtain ⟨i,f1,f2,f3⟩:=t2 b hb
    exact ⟨i,f1,m1.alive f2,f3⟩
  ·intro Ac hA hR hO
   refine .cons _ t1 O1 vs ts O2 (l1.narrowO hA fun b hb=>hO b (by simp [hb])) (l2 Ac hA ?_ fun b hb=>hO b (by simp [hb]))
   intro i b wr sz ds off hi hb ho hlt
   obtain ⟨wr',ho'⟩:=m1.ow ho
   exact hR i b wr' sz ds off hi hb ho' hlt
end
end Lg
namespace Lg
open Go
set_option linter.unusedVariables false
set_option linter.unusedSimpArgs false
set_option linter.unusedSectionVars false
section
variable {fid:Nat→FuncId} {w w':World} {A A':Av} {ι:Io} {H:List Ob}
theorem frz1_sound {vs:List Value} {cs cs':List D} {u:Option (Nat×Ob)} (l:LVs fid w A ι true vs cs []) (hob:∀ i,ObjOK fid w A ι (ι i) (obAt H i)) (h:frz1 cs H=some (cs',u)) :
  ∃ A1,Keep w w A A1 (fun b=>∃ i o,u=some (i,o)∧ι i=some (some b))∧(∀ b off,A1 b off→A b off)∧LVs fid w A1 (fun _=>none) false vs cs' [] ∧
   ∀ i o,u=some (i,o)→ObjOK fid w A1 ι (ι i) o∧i<H.length∧alive (obAt H i)=true:=by
 unfold frz1 at h
 split at h
 ·rename_i hro
  injection h with h
  simp only [Prod.mk.injEq] at h
  obtain ⟨rfl,rfl⟩:=h
  exact ⟨A,Keep.refl _ _ _,fun _ _ h=>h,(l.ro hro).weak,by intro i o e;cases e⟩
 ·split at h
  case h_2=>cases h
  rename_i id ids hids
  split at h
  case isFalse=>cases h
  rename_i hall
  split at h
  case h_2=>cases h
  rename_i wr sz ds hH
  have hall':∀ i,i∈idsDs cs→i=id:=by
   intro i hi
   rw [hids] at hi
   rcases List.mem_cons.1 hi with e | e
   ·exact e
   ·rw [List.all_eq_true] at hall
    simpa using hall i e
  obtain ⟨⟨cs1,H1⟩,h1,h2⟩:=Option.map_eq_some_iff.1 h
  simp only [Prod.mk.injEq] at h2
  obtain ⟨rfl,rfl⟩:=h2
  have K:=less_keep w A ι H [id]
  have hro:rof false (.agg cs) H=some (.agg cs1,H1):=by simp [rof,h1]
  have lz:=(rof_sound (fid:=fid) (w:=w) (A:=A) (Ac:=less A ι H [id]) (ι:=ι) (ι':=fun _=>none) (fz:=false) (less_le _ _ _ _) (LV.agg vs cs [] l) H H1 (.agg cs1) (owOK hob) (by simp only [idsD];intro i b wr sz ds off hi hb ho hlt;exact less_out A ι H [id] i b wr sz ds off (by simp [hall' i hi]) hb ho hlt) (by simp) hro).1
  obtain ⟨vs',e0,lz'⟩:=lz.inv_agg
  simp only [Value.agg.injEq,Array.mk.injEq] at e0
  subst e0
  refine ⟨less A ι H [id],K.mono ?_,less_le _ _ _ _,lz',fun i o e=>?_⟩
  ·rintro b ⟨i,wr',sz',ds',g1,g2,g3⟩
   simp at g1;subst g1
   exact ⟨_,_,rfl,g2⟩
  ·injection e with e
   simp only [Prod.mk.injEq] at e
   obtain ⟨rfl,rfl⟩:=e
   refine ⟨?_,lt_of_get hH,by rw [obAt_of hH];rfl⟩
   have ho:=hob id
   rw [obAt_of hH] at ho
   rcases ho with ho | ⟨b,eb,cs,T,fr,vs,h1,h2,h3,h4,h5,h6,h7,h8⟩
   ·exact .inl ho
   ·refine .inr ⟨b,eb,cs,T,fr,vs,h1,h2,h3,LVs.keep K (fun _ _ e=>e) h4 (by simp),h5,h6,(by intro x;cases x),fun off ho'=>⟨h8 off ho',?_⟩⟩
    rintro ⟨j,wr',sz',ds',g1,g2,g3,g4⟩
    simp at g1;subst g1
    rw [obAt_of hH] at g3
    simp only [Ob.ow.injEq] at g3
    obtain ⟨_,rfl,rfl⟩:=g3
    rw [h4.length_eq,flat_len h3] at ho'
    omega
theorem roD_both {Ac:Av} (hA:∀ b off,Ac b off→A b off) :
  (∀ {r:Bool} {v:Value} {d:D} {O:List Nat},LV fid w A ι r v d O→(∀ b,b∈O→∀ off,¬Ac b off)→∀ d',roD d=some d'→LV fid w Ac ι r v d' []):=by
 intro r v d O h
 refine LV.rec (motive_1:=fun r v d O _=>(∀ b,b∈O→∀ off,¬Ac b off)→∀ d',roD d=some d'→LV fid w Ac ι r v d' []) (motive_2:=fun r vs ds O _=>(∀ b,b∈O→∀ off,¬Ac b off)→∀ ds',roDs ds=some ds'→LVs fid w Ac ι r vs ds' [])
  ?_ ?_ ?_ ?_ ?_ ?_ ?_ ?_ ?_ ?_ ?_ ?_ ?_ ?_ ?_ ?_ ?_ ?_ ?_ h
 ·intro r v h _ d' e;simp [roD] at e;subst e;exact .sc v h
 ·intro r v _ d' e;simp [roD] at e;subst e;exact .un v
 ·intro r v h _ d' e;simp [roD] at e;subst e;exact .uk v h
 ·intro r _ d' e;simp [roD] at e;subst e;exact .nl
 ·intro r a _ d' e;simp [roD] at e;subst e;exact .sn a
 ·intro r f vs ds O _ ih n d' e
  simp only [roD] at e
  obtain ⟨ds',e1,rfl⟩:=Option.map_eq_some_iff.1 e
  exact .fn f vs ds' [] (ih n ds' e1)
 ·intro r vs ds O _ ih n d' e
  simp only [roD] at e
  obtain ⟨ds',e1,rfl⟩:=Option.map_eq_some_iff.1 e
  exact .agg vs ds' [] (ih n ds' e1)
 ·intro r vs ds O _ ih n d' e
  simp only [roD] at e
  obtain ⟨ds',e1,rfl⟩:=Option.map_eq_some_iff.1 e
  exact .tup vs ds' [] (ih n ds' e1)
 ·intro r a n cap sz ds vs hn hc hu h h1 hr ih _ d' e
  simp [roD] at e;subst e
  exact .sl a n cap sz ds vs hn hc hu ((LV.narrow_both hA).2 h) h1 (fun k v hk=>by obtain ⟨ad,e,n,c⟩:=hr k v hk;exact ⟨ad,e,fun x=>n (hA _ _ x),c⟩)
 ·intro r ad ds vs h h1 hr ih _ d' e
  simp [roD] at e;subst e
  exact .ep ad ds vs ((LV.narrow_both hA).2 h) h1 (fun k v hk=>⟨fun x=>(hr k v hk).1 (hA _ _ x),(hr k v hk).2⟩)
 ·intro r a wr sz _ d' e;simp [roD] at e;subst e;exact .sl a 0 0 sz [] [] rfl (Nat.le_refl _) (by simp) .nil (by simp) (by simp)
 ·intro r b cap sz wr ds vs cs T fr hb hf hu h h1 hr hc hs ha hA' ih n d' e
  simp [roD] at e;subst e
  refine .sl _ _ cap sz ds vs rfl hc hu ((LV.narrow_both hA).2 h) h1 (fun k v hk=>⟨_,rfl,n b (by simp) _,?_⟩)
  rw [addr_add]
  exact cell_of hb (by rw [Nat.zero_add];exact hr k v hk)
 ·intro r b vs ds O T fr hb hf _ h1 hA' ih _ d' e;simp [roD] at e
 ·intro r b es c ks xs hb _ _ hA' ih1 ih2 _ d' e;simp [roD] at e
 ·intro a id sz off len cap q hi h0 h1 _ d' e;simp [roD] at e;subst e;exact .rf a id sz off len cap q hi h0 h1
 ·intro id sz e off b hi _ d' e';simp [roD] at e';subst e';exact .pt id sz e off b hi
 ·intro id b hi _ d' e;simp [roD] at e;subst e;exact .mp id b hi
 ·intro r _ ds' e;simp [roDs] at e;subst e;exact .nil
 ·intro r v d O vs ds Os _ _ ih1 ih2 n ds' e
  simp only [roDs] at e
  obtain ⟨d1,e1,e⟩:=Option.bind_eq_some_iff.1 e
  obtain ⟨ds2,e2,rfl⟩:=Option.map_eq_some_iff.1 e
  exact LVs.cons' (ih1 (fun b hb=>n b (by simp [hb])) d1 e1) (ih2 (fun b hb=>n b (by simp [hb])) ds2 e2)
theorem XR.ro {eo O:List Nat} {v:Value} {d d':D} (X:XR fid w w' A A' ι H eo v d none O) (h:roD d=some d'):XR fid w w' A (fun b off=>A' b off∧b∉O) ι H eo v d' none []:=by
 have K:=X.kp
 refine ⟨⟨K.os,K.tape,K.output,K.size,K.blk,K.cel,K.siz,fun b off hh=>K.a1 b off hh.1,fun b off hb hlt hA=>⟨K.a2 b off hb hlt hA,fun hO=>?_⟩⟩,roD_both (fun b off hh=>hh.1) X.lv (fun b hb off hh=>hh.2 hb) d' h,(by intro i o e;cases e),List.nodup_nil,by simp⟩
 rcases X.fr b hO with hx | ⟨i,e,_⟩ | hx
 ·exact hb (.inl hx)
 ·cases e
 ·omega
end
section
variable {P:Program} {num:FuncId→Option Nat} {fid:Nat→FuncId} (hnum:∀ f g,num f=some g→fid g=f)
 {w:World} {A:Av} {ι:Io} {H:List Ob} {eo:List Nat} {a:Act} {E:Env} {own:Nat→List Nat} (hl:∀ t,LV fid w A ι true (a.tmps.getD t undef) (lk E t) (own t)) (hob:∀ i,ObjOK fid w A ι (ι i) (obAt H i)) {o:Oper} {d:D}
include hnum hl hob
theorem x_bsl {t e:TypeId} {own':Bool} {len sz:Nat} {ps:Array (Nat×Operand)} {z cs cs':List D} {u:Option (Nat×Ob)} (hal:∀ b off,A b off→b<w.heap.size) (ho:o.op = .buildSlice t len ps) (ht:P.underlying t=some (.slice e)) (hs:sizeT P e=some sz) (hz:zeroT P e=some z)
  (hbig:len*sz≤2 ^ 24) (h0:0<sz) (hok:∀ p,p∈ps.toList→okOpd p.2=true) (hf:fillD sz (List.replicate len z).flatten (ps.toList.map fun p=>(p.1,ov E (opd num p.2)))=some cs)
  (hfz:frz1 cs H=some (cs',u)) (hzl:z.length=sz) (hcc:cs.all isCellD=true) (hcc':cs'.all isCellD=true) (hnt:noTrees (ps.toList.map fun p=>ov E (opd num p.2))=true)
  (hd:d=if own' then .osl true sz (chunks (sz != 1) sz len cs') else .sl sz (chunks (sz != 1) sz len cs')) :
  Does P fid w A ι H eo a o d u:=by
 obtain ⟨ti,zv,hti,hzv,hlz,h1⟩:=lv_zero (fid:=fid) (w:=w) (A:=A) (ι:=ι) hnum hz (r:=true)
 obtain ⟨ti2,hti2,hsz⟩:=Option.map_eq_some_iff.1 hs
 rw [hti] at hti2
 injection hti2 with e1;subst e1
 have hzs:zv.cells.size=sz:=by rw [←Array.length_toList,hlz.length_eq,hzl]
 have hbd:buildD (List.replicate len z).flatten ((ps.toList.map fun p=>(p.1*sz,sz,opd num p.2)).map fun q=>(q.1,q.2.1,ov E q.2.2))=some cs:=by
  rw [fillD_build] at hf
  simpa [List.map_map,Function.comp_def] using hf
 obtain ⟨cv,hfill,hcv⟩:=fill_lv hnum hl (fun i=>some (i*sz,sz)) ps.toList (ps.toList.map fun p=>(p.1*sz,sz,opd num p.2)) (List.replicate len zv.cells.toList).flatten (List.replicate len z).flatten cs hok (by simp)
  (by intro k p q hp hq;simp only [List.getElem?_map,hp,Option.map_some,Option.some.injEq] at hq;subst hq;exact ⟨rfl,rfl⟩) (by simpa [List.map_map,Function.comp_def] using hnt) (hlz.reps len) hbd
 have hcl:cs.length=len*sz:=by rw [fillD_len hf];simp [List.length_flatten,hzl]
 obtain ⟨A1,K1,hA1,hl1,hou⟩:=frz1_sound hcv hob hfz
 have hcl':cs'.length=len*sz:=by rw [←hl1.length_eq,hcv.length_eq,hcl]
 obtain ⟨c1,c2,c3⟩:=chunks_spec sz h0 len cs' hcl' hcc'
 have hcv':LVs fid w A1 (fun _=>none) false cv.toList (flat (chunks (sz != 1) sz len cs')) []:=by rw [c1];exact hl1
 have hones:=hcv.ones hcc
 have hcvl:cv.toList.length=len*sz:=by rw [hcv.length_eq,hcl]
 have hmk:(Array.range (len*sz)).map (zv.cells[· % zv.cells.size]!)=⟨(List.replicate len zv.cells.toList).flatten⟩:=by
  apply Array.ext'
  have:=madeCells_rep zv.cells len (by omega)
  rw [hzs] at this
  unfold madeCells at this
  exact this
 have hrun:(Instr.buildSlice t len (ps.map fun x=>(x.1,a.eval x.2))).run P w = .ok (.slice (some ⟨w.heap.size,0,none⟩) len len) (w.alloc (.cells ⟨cv.toList++[]⟩ e)):=by
  unfold Instr.buildSlice
  have hpl:(ps.map fun x=>(x.1,a.eval x.2)).toList=ps.toList.map fun p=>(p.1,a.eval p.2):=by simp
  simp only [Sem.run_bind,run_underlying ht,run_sizeT hs,Result.andThen_ok]
  rw [if_neg (by omega)]
  by_cases hz0:len*sz=0
  ·rw [if_pos hz0]
   have hl0:len=0:=by
    rcases Nat.mul_eq_zero.1 hz0 with h | h
    ·exact h
    ·omega
   subst hl0
   simp only [Sem.run_bind,Sem.run_pure,Result.andThen_ok,hpl]
   have hr0:(Array.range (0*sz)).map (fun x=>(#[]:Array Value)[x % (#[]:Array Value).size]!)=⟨[]⟩:=by simp [Array.range_zero']
   rw [hr0]
   have hf2:=hfill
   simp only [List.replicate_zero,List.flatten_nil] at hf2
   rw [hf2]
   simp only [Sem.run_bind,run_newRow,Result.andThen_ok,Sem.run_pure,List.append_nil]
  ·rw [if_neg hz0]
   have hz0':(zeroValue e).run P w = .ok zv w:=by simp [zeroValue,typeInfo,hti,hzv,Sem.run_bind]
   simp only [Sem.run_bind,hz0',Result.andThen_ok,Sem.run_pure,hmk,hpl]
   rw [hfill]
   simp only [Sem.run_bind,run_newRow,Result.andThen_ok,Sem.run_pure,List.append_nil]
 have hex:(execOp a.eval o).run P w = .ok (.value (.slice (some ⟨w.heap.size,0,none⟩) len len)) (w.alloc (.cells ⟨cv.toList++[]⟩ e)):=by
  simp only [execOp,ho]
  exact run_v hrun
 subst hd
 have fin:∀ {A2:Av} {d:D} {O:List Nat},Keep w (w.alloc (.cells ⟨cv.toList++[]⟩ e)) A1 A2 (fun _=>False)→LV fid (w.alloc (.cells ⟨cv.toList++[]⟩ e)) A2 ι true (.slice (some ⟨w.heap.size,0,none⟩) len len) d O→O.Nodup→(∀ b,b∈O→w.heap.size≤b) →
   XR fid w (w.alloc (.cells ⟨cv.toList++[]⟩ e)) A A2 ι H eo (.slice (some ⟨w.heap.size,0,none⟩) len len) d u O:=by
  intro A2 d O K2 l nd hO
  refine ⟨(K1.trans K2 (fun b h=> .inl h) (fun b h=>h.elim)).mono (fun b h=> .inr h),l,fun i ob hu=>?_,nd,fun b hb=> .inr (.inr (hO b hb))⟩
  obtain ⟨h1,h2,h3⟩:=hou i ob hu
  exact ⟨h1.keep K2 (fun _ _ e=>e) (by simp),h2,h3⟩
 cases own' with
 | true=>exact ⟨_,_,_,_,[w.heap.size],hex, .inl rfl,fin (Keep.alloc w A1 _) (LV.newRow (e:=e) (Keep.refl w A1 _) hcv' hones c3 c2 (Nat.le_refl _) (by simpa using hcvl)) (by simp) (by simp)⟩
 | false =>
  refine ⟨_,_,_,A1,[],hex, .inl rfl,fin (Keep.alloc0 w A1 _ _) ?_ (by simp) (by simp)⟩
  have K:=Keep.alloc0 w A1 (.cells ⟨cv.toList++[]⟩ e) (fun _=>False)
  refine .sl _ len len sz _ cv.toList c2 (Nat.le_refl _) c3 (LVs.keep K (fun _ _ e=>e) hcv' (by simp)).weak hones fun k v hk=>⟨_,rfl,fun hA=>?_,?_⟩
  ·have:=hal _ _ (hA1 _ _ hA);simp at this
  ·rw [addr_add]
   exact cell_of (alloc_heap_new w _) (by rw [Nat.zero_add];simpa using hk)
end
end Lg
namespace Lg
open Go
set_option linter.unusedVariables false
set_option linter.unusedSimpArgs false
set_option linter.unusedSectionVars false
def DoesW (P:Program) (fid:Nat→FuncId) (w:World) (A:Av) (ι:Io) (H:List Ob) (eo:List Nat) (a:Act) (o:Oper) (d:D) (u:Option (Nat×Ob)):Prop :=
 ∀ (K:Act→World→Prop) (Q:Exit→Act→World→Prop),(∀ v w' A' O,XR fid w w' A A' ι H eo v d u O→K (a.put o.dst v) w')→o.wp P a w K Q
def Entered (P:Program) (f:FuncId):Prop:=∃ fn,P.funcs[f]? = some fn∧(fn.name == "runtime.NumGoroutine")=false∧fn.body.isNone=false
def ClR (P:Program) (fid:Nat→FuncId) (r:Nat→List D→List Ob→Option D):Prop :=
 ∀ (f:Nat) (as:List D) (H:List Ob) (d:D),r f as H=some d→Entered P (fid f)∧∀ (w:World) (A:Av) (ι:Io) (vs:List Value) (O eo:List Nat),LVs fid w A ι true vs as O→(∀ i,ObjOK fid w A ι (ι i) (obAt H i))→(∀ b off,A b off→b<w.heap.size) →
  Calls P (fid f) ⟨vs⟩ w (fun e w'=>∃ v A' O',e = .returned v∧XR fid w w' A A' ι H eo v d none O')
section
variable {P:Program} {num:FuncId→Option Nat} {fid:Nat→FuncId} (hnum:∀ f g,num f=some g→fid g=f)
 {w:World} {A:Av} {ι:Io} {H:List Ob} {eo:List Nat} {a:Act} {E:Env} {own:Nat→List Nat}
 {o:Oper} {d:D} {u:Option (Nat×Ob)}
theorem Does.upw (h:Does P fid w A ι H eo a o d u):DoesW P fid w A ι H eo a o d u:=by
 intro K Q hK
 obtain ⟨nx,v,w',A',O,hr,hn,X⟩:=h
 rcases hn with rfl | ⟨rfl,rfl⟩
 ·exact wp_value hr (hK v w' A' O X)
 ·exact wp_skipped hr (hK undef w' A' O X)
theorem run_callFunc_enter {f:FuncId} {args:Array Value} (h:Entered P f):(callFunc f args).run P w = .ok (.enter f args) w:=by
 obtain ⟨fn,h1,h2,h3⟩:=h
 simp only [callFunc,Sem.run_bind,run_program,Result.andThen_ok,h1,h2,h3,Bool.false_eq_true,if_false,Sem.run_pure]
include hnum in
theorem x_args {xs:List Operand} (hl:∀ t,LV fid w A ι true (a.tmps.getD t undef) (lk E t) (own t)) (hk:∀ x,x∈xs→okOpd x=true):∃ O,LVs fid w A ι true (xs.map a.eval) (xs.map fun x=>ov E (opd num x)) O:=by
 induction xs with
 | nil=>exact ⟨[], .nil⟩
 | cons x xs ih =>
  obtain ⟨O,l⟩:=ih (fun y hy=>hk y (by simp [hy]))
  exact ⟨_, .cons _ _ _ _ _ _ (lv_opd hnum hl x (hk x (by simp))) l⟩
theorem ovs_opds (xs:Array Operand):ovs E (opds num xs)=xs.toList.map fun x=>ov E (opd num x):=by
 simp [ovs,opds,List.map_map,Function.comp_def]
theorem call_doesW {r:Nat→List D→List Ob→Option D} (hr:ClR P fid r) (hl:∀ t,LV fid w A ι true (a.tmps.getD t undef) (lk E t) (own t)) (hob:∀ i,ObjOK fid w A ι (ι i) (obAt H i)) (hal:∀ b off,A b off→b<w.heap.size)
  {g:Nat} {vs:List Value} {as:List D} {O:List Nat} (l:LVs fid w A ι true vs as O) (h:r g as H=some d) (hrun:Entered P (fid g)→(execOp a.eval o).run P w = .ok (.enter (fid g) ⟨vs⟩) w):DoesW P fid w A ι H eo a o d none:=by
 intro K Q hK
 obtain ⟨he,hc⟩:=hr g as H d h
 unfold Oper.wp
 rw [hrun he,Oper.upon_enter]
 refine Calls.mono (hc w A ι vs O eo l hob hal) fun e w' hh=>?_
 obtain ⟨v,A',O',rfl,X⟩:=hh
 exact hK v w' A' O' X
theorem LVs.appendO {fid:Nat→FuncId} {w:World} {A:Av} {ι:Io} {r:Bool} {vs us:List Value} {ds es:List D} {O O':List Nat} (h:LVs fid w A ι r vs ds O) (k:LVs fid w A ι r us es O'):LVs fid w A ι r (vs++us) (ds++es) (O++O'):=by
 induction vs generalizing ds O with
 | nil=>cases h;exact k
 | cons v vs ih =>
  cases h with
  | cons _ d O1 _ ds' O2 h hs =>
   rw [List.append_assoc]
   exact LVs.cons v d O1 _ _ _ h (ih hs)
include hnum in
theorem evX_sound {r:Nat→List D→List Ob→Option D} (hr:ClR P fid r) {own' q:Bool} {sop:SOp} (hl:∀ t,LV fid w A ι true (a.tmps.getD t undef) (lk E t) (own t)) (hob:∀ i,ObjOK fid w A ι (ι i) (obAt H i)) (hal:∀ b off,A b off→b<w.heap.size)
  (hk:∀ x,x∈o.op.operands.toList→okOpd x=true) (hc:compOp P num q own' o.op=some sop) (h:evX r E H sop=some (d,u)):DoesW P fid w A ι H (eaten own (eats E sop)) a o d u:=by
 rcases compOp_some hc with hc | rfl
 case inr=>simp [evX] at h
 have pure:∀ {d'},Pure1 P fid w A ι a o d'→d'=d→u=none→DoesW P fid w A ι H (eaten own (eats E sop)) a o d u:=by
  rintro d' hp rfl rfl;exact hp.does.upw
 cases ho:o.op with
 | move x =>
  rw [ho] at hc hk;simp only [compOp0,Option.some.injEq] at hc;subst hc
  simp only [evX] at h;split at h<;>simp only [Option.some.injEq,Prod.mk.injEq,reduceCtorEq] at h
  exact pure (x_mv hnum hl (.inl ho) (hk x (by simp [Op.operands])) (by assumption)) h.1 h.2.symm
 | assign x =>
  rw [ho] at hc hk;simp only [compOp0,Option.some.injEq] at hc;subst hc
  simp only [evX] at h;split at h<;>simp only [Option.some.injEq,Prod.mk.injEq,reduceCtorEq] at h
  exact pure (x_mv hnum hl (.inr ho) (hk x (by simp [Op.operands])) (by assumption)) h.1 h.2.symm
 | pick c x y =>
  rw [ho] at hc hk;simp only [compOp0,Option.some.injEq] at hc;subst hc
  simp only [evX] at h
  split at h
  ·rename_i b hb
   by_cases hh:noTree (if b=true then ov E (opd num x) else ov E (opd num y))=true
   ·rw [if_pos hh] at h
    simp only [Option.some.injEq,Prod.mk.injEq] at h
    exact pure (x_pick hnum hl ho (hk c (by simp [Op.operands])) (hk x (by simp [Op.operands])) (hk y (by simp [Op.operands])) hb hh) h.1 h.2.symm
   ·rw [if_neg hh] at h;cases h
  ·cases h
 | alloc t =>
  rw [ho] at hc hk;simp only [compOp0] at hc
  obtain ⟨z,hz,rfl⟩:=Option.map_eq_some_iff.1 hc
  simp only [evX] at h;split at h<;>simp only [Option.some.injEq,Prod.mk.injEq,reduceCtorEq] at h
  obtain ⟨rfl,rfl⟩:=h
  exact (x_alloc hnum ho hz).upw
 | box t x =>
  rw [ho] at hc hk;simp only [compOp0] at hc
  obtain ⟨n,hn,rfl⟩:=Option.map_eq_some_iff.1 hc
  simp only [evX] at h;split at h<;>simp only [Option.some.injEq,Prod.mk.injEq,reduceCtorEq] at h
  rename_i hh
  obtain ⟨rfl,rfl⟩:=h
  exact (x_box (n:=n) hnum hl ho (hk x (by simp [Op.operands])) hh.2.1 hh.2.2).upw
 | build t ps =>
  rw [ho] at hc hk;simp only [compOp0] at hc
  have hok:∀ p,p∈ps.toList→okOpd p.2=true:=fun p hp=>hk p.2 (by simp only [Op.operands];exact List.mem_map.2 ⟨p,hp,rfl⟩)
  obtain ⟨z,hz,hc⟩:=Option.bind_eq_some_iff.1 hc
  split at hc
  ·rename_i fs ht
   obtain ⟨pl,hp,hc⟩:=Option.bind_eq_some_iff.1 hc
   obtain ⟨qs,hq,rfl⟩:=Option.map_eq_some_iff.1 hc
   simp only [evX] at h
   split at h
   ·rename_i hn
    obtain ⟨ds,hd,h⟩:=Option.map_eq_some_iff.1 h
    simp only [Prod.mk.injEq] at h
    exact pure (x_build_struct hnum hl ho hz ht hp hq hok hn hd) h.1 h.2.symm
   ·cases h
  ·rename_i len e ht
   obtain ⟨n,hs,rfl⟩:=Option.map_eq_some_iff.1 hc
   simp only [evX] at h
   split at h
   ·rename_i hn
    obtain ⟨ds,hd,h⟩:=Option.map_eq_some_iff.1 h
    simp only [Prod.mk.injEq] at h
    simp only [List.map_map,Function.comp_def] at hn hd
    exact pure (x_build_array hnum hl ho hz ht hs hok hn hd) h.1 h.2.symm
   ·cases h
  ·cases hc
 | buildSlice t len ps =>
  rw [ho] at hc hk;simp only [compOp0] at hc
  have hok:∀ p,p∈ps.toList→okOpd p.2=true:=fun p hp=>hk p.2 (by simp only [Op.operands];exact List.mem_map.2 ⟨p,hp,rfl⟩)
  obtain ⟨e,he,hc⟩:=Option.bind_eq_some_iff.1 hc
  obtain ⟨n,hn,hc⟩:=Option.bind_eq_some_iff.1 hc
  obtain ⟨z,hz,hc⟩:=Option.bind_eq_some_iff.1 hc
  have ht:P.underlying t=some (.slice e):=by
   unfold elemT at he;split at he<;>simp_all
  split at hc
  ·rename_i hh
   injection hc with hc;subst hc
   simp only [evX] at h
   obtain ⟨cs,hf,h⟩:=Option.bind_eq_some_iff.1 h
   obtain ⟨⟨cs',u'⟩,hfz,h⟩:=Option.bind_eq_some_iff.1 h
   split at h
   ·rename_i hg
    simp only [Option.some.injEq,Prod.mk.injEq] at h
    obtain ⟨rfl,rfl⟩:=h
    simp only [List.map_map,Function.comp_def] at hf hg
    exact (x_bsl hnum hl hob hal ho ht hn hz hh.1 hh.2 hok hf hfz hg.1 hg.2.1 hg.2.2.1 hg.2.2.2 rfl).upw
   ·cases h
  ·cases hc
 | load t x =>
  rw [ho] at hc hk;simp only [compOp0] at hc
  obtain ⟨ag,ha,hc⟩:=Option.bind_eq_some_iff.1 hc
  obtain ⟨n,hn,rfl⟩:=Option.map_eq_some_iff.1 hc
  simp only [evX] at h
  obtain ⟨d',hd,h⟩:=Option.map_eq_some_iff.1 h
  simp only [Prod.mk.injEq] at h
  exact pure (x_load hnum hl hob ho ha hn (hk x (by simp [Op.operands])) hd) h.1 h.2.symm
 | store t x v =>
  rw [ho] at hc hk;simp only [compOp0] at hc
  obtain ⟨n,hn,rfl⟩:=Option.map_eq_some_iff.1 hc
  simp only [evX] at h
  split at h
  ·rename_i hh
   simp only [Bool.and_eq_true] at hh
   exact (x_store hnum hl hob ho hn (hk x (by simp [Op.operands])) (hk v (by simp [Op.operands])) hh.1 hh.2 h).upw
  ·cases h
 | nilCheck x =>
  rw [ho] at hc hk;simp only [compOp0,Option.some.injEq] at hc;subst hc
  simp only [evX] at h
  split at h
  ·rename_i e;simp only [Option.some.injEq,Prod.mk.injEq] at h
   exact pure (x_nilc hnum hl ho (hk x (by simp [Op.operands])) (.inl ⟨_,_,_,_,e⟩)) (by rw [e];exact h.1) h.2.symm
  ·rename_i e;simp only [Option.some.injEq,Prod.mk.injEq] at h
   exact pure (x_nilc hnum hl ho (hk x (by simp [Op.operands])) (.inr ⟨_,e⟩)) (by rw [e];exact h.1) h.2.symm
  ·cases h
 | binOp op t x y ty =>
  rw [ho] at hc hk
  have hx:=hk x (by simp [Op.operands])
  have hy:=hk y (by simp [Op.operands])
  simp only [compOp0] at hc
  split at hc
  ·rename_i fs hu
   split at hc
   ·rename_i hg
    obtain ⟨ks,hks,rfl⟩:=Option.map_eq_some_iff.1 hc
    simp only [evX] at h
    obtain ⟨d',hd,h⟩:=Option.map_eq_some_iff.1 h
    simp only [Prod.mk.injEq] at h
    exact pure (x_eqa (neg:=false) hnum hl ho hu rfl hg hks hx hy hd) h.1 h.2.symm
   ·cases hc
  ·rename_i len e hu
   split at hc
   ·rename_i hg
    obtain ⟨ks,hks,rfl⟩:=Option.map_eq_some_iff.1 hc
    simp only [evX] at h
    obtain ⟨d',hd,h⟩:=Option.map_eq_some_iff.1 h
    simp only [Prod.mk.injEq] at h
    exact pure (x_eqa (neg:=false) hnum hl ho hu rfl hg hks hx hy hd) h.1 h.2.symm
   ·cases hc
  ·rename_i fs hu
   split at hc
   ·rename_i hg
    obtain ⟨ks,hks,rfl⟩:=Option.map_eq_some_iff.1 hc
    simp only [evX] at h
    obtain ⟨d',hd,h⟩:=Option.map_eq_some_iff.1 h
    simp only [Prod.mk.injEq] at h
    exact pure (x_eqa (neg:=true) hnum hl ho hu rfl hg hks hx hy hd) h.1 h.2.symm
   ·cases hc
  ·rename_i len e hu
   split at hc
   ·rename_i hg
    obtain ⟨ks,hks,rfl⟩:=Option.map_eq_some_iff.1 hc
    simp only [evX] at h
    obtain ⟨d',hd,h⟩:=Option.map_eq_some_iff.1 h
    simp only [Prod.mk.injEq] at h
    exact pure (x_eqa (neg:=true) hnum hl ho hu rfl hg hks hx hy hd) h.1 h.2.symm
   ·cases hc
  ·rename_i e hu
   split at hc
   ·injection hc with hc;subst hc
    simp only [evX] at h
    split at h
    ·rename_i e1;simp only [Option.some.injEq,Prod.mk.injEq] at h
     exact pure (x_eqn (neg:=false) hnum hl ho rfl hu hx (.inl ⟨e1,rfl⟩)) h.1 h.2.symm
    ·rename_i e1;simp only [Option.some.injEq,Prod.mk.injEq] at h
     exact pure (x_eqn (neg:=false) hnum hl ho rfl hu hx (.inr ⟨⟨_,_,_,_,e1⟩,rfl⟩)) h.1 h.2.symm
    ·cases h
   ·cases hc
  ·rename_i e hu
   split at hc
   ·injection hc with hc;subst hc
    simp only [evX] at h
    split at h
    ·rename_i e1;simp only [Option.some.injEq,Prod.mk.injEq] at h
     exact pure (x_eqn (neg:=true) hnum hl ho rfl hu hx (.inl ⟨e1,rfl⟩)) h.1 h.2.symm
    ·rename_i e1;simp only [Option.some.injEq,Prod.mk.injEq] at h
     exact pure (x_eqn (neg:=true) hnum hl ho rfl hu hx (.inr ⟨⟨_,_,_,_,e1⟩,rfl⟩)) h.1 h.2.symm
    ·cases h
   ·cases hc
  ·injection hc with hc;subst hc
   simp only [evX] at h
   obtain ⟨d',hd,h⟩:=Option.map_eq_some_iff.1 h
   simp only [Prod.mk.injEq] at h
   exact pure (x_bin hnum hl ho hx hy hd) h.1 h.2.symm
  ·injection hc with hc;subst hc
   simp only [evX] at h
   obtain ⟨d',hd,h⟩:=Option.map_eq_some_iff.1 h
   simp only [Prod.mk.injEq] at h
   exact pure (x_bin hnum hl ho hx hy hd) h.1 h.2.symm
  ·rename_i hu
   injection hc with hc;subst hc
   simp only [evX] at h
   obtain ⟨d',hd,h⟩:=Option.map_eq_some_iff.1 h
   simp only [Prod.mk.injEq] at h
   exact pure (x_binb hnum hl ho hu hx hy hd) h.1 h.2.symm
  ·cases hc
 | unOp op t x =>
  rw [ho] at hc hk;simp only [compOp0,Option.some.injEq] at hc;subst hc
  simp only [evX] at h
  obtain ⟨d',hd,h⟩:=Option.map_eq_some_iff.1 h
  simp only [Prod.mk.injEq] at h
  exact pure (x_una hnum hl ho (hk x (by simp [Op.operands])) hd) h.1 h.2.symm
 | convert s t x =>
  rw [ho] at hc hk
  have hx:=hk x (by simp [Op.operands])
  have u8:∀ e,isU8 P e=true→P.underlying e=some (.int .u8):=by
   intro e he
   unfold isU8 at he
   split at he
   ·assumption
   ·cases he
  simp only [compOp0] at hc
  split at hc
  ·rename_i e e' h1 h2
   split at hc
   ·rename_i hh
    obtain ⟨rfl,hh⟩:=hh
    injection hc with hc;subst hc
    simp only [evX] at h
    split at h
    ·rename_i id sz off len e1
     split at h
     ·rename_i wr sz' ds hH
      split at h
      ·rename_i hlen
       simp only [Option.some.injEq,Prod.mk.injEq] at h
       obtain ⟨rfl,rfl⟩:=h
       exact (x_cvb hnum hl hob ho h1 (u8 e hh) hx e1 hH hlen).upw
      ·cases h
     ·cases h
    ·cases h
   ·cases hc
  ·rename_i k0 k h1 h2
   injection hc with hc;subst hc
   simp only [evX] at h
   obtain ⟨d',hd,h⟩:=Option.map_eq_some_iff.1 h
   simp only [Prod.mk.injEq] at h
   exact pure (x_cvi hnum hl ho h1 h2 hx hd) h.1 h.2.symm
  ·rename_i h1 h2
   injection hc with hc;subst hc
   simp only [evX] at h
   split at h
   ·rename_i e1
    simp only [Option.some.injEq,Prod.mk.injEq] at h
    exact pure (x_cvs hnum hl ho h1 h2 hx e1) h.1 h.2.symm
   ·cases h
  ·rename_i e h1 h2
   split at hc
   ·rename_i hh
    injection hc with hc;subst hc
    simp only [evX] at h
    split at h
    ·rename_i e1
     simp only [Option.some.injEq,Prod.mk.injEq] at h
     obtain ⟨rfl,rfl⟩:=h
     exact (x_s2b hnum hl ho h1 h2 (u8 e hh) hx e1).upw
    ·cases h
   ·cases hc
  ·rename_i e h1 h2
   split at hc
   ·rename_i hh
    injection hc with hc;subst hc
    simp only [evX] at h
    obtain ⟨⟨sz,ds⟩,hs,h⟩:=Option.bind_eq_some_iff.1 h
    obtain ⟨l,hb,h⟩:=Option.map_eq_some_iff.1 h
    simp only [Prod.mk.injEq] at h
    exact pure (x_b2s hnum hl hob ho h1 h2 (u8 e hh) hx hs hb) h.1 h.2.symm
   ·cases hc
  ·cases hc
 | makeFunc fn first caps =>
  rw [ho] at hc hk
  simp only [compOp0] at hc
  split at hc
  ·rename_i f
   split at hc
   ·rename_i hf
    have:first=#[]:=Array.size_eq_zero_iff.1 hf
    subst this
    obtain ⟨g,hg,rfl⟩:=Option.map_eq_some_iff.1 hc
    simp only [evX] at h
    split at h
    ·rename_i hn
     simp only [Option.some.injEq,Prod.mk.injEq] at h
     rw [ovs_opds] at hn h
     exact pure (x_mkf hnum hl ho hg (fun x hx=>hk x (by simp [Op.operands];simpa using hx)) hn) h.1 h.2.symm
    ·cases h
   ·cases hc
  ·cases hc
 | makeSlice t l c =>
  rw [ho] at hc hk
  simp only [compOp0] at hc
  split at hc
  ·rename_i x y
   split at hc
   ·rename_i hxy
    subst hxy
    obtain ⟨e,he,hc⟩:=Option.bind_eq_some_iff.1 hc
    obtain ⟨n,hn,hc⟩:=Option.bind_eq_some_iff.1 hc
    obtain ⟨by_,hby,hc⟩:=Option.bind_eq_some_iff.1 hc
    obtain ⟨z,hz,hc⟩:=Option.bind_eq_some_iff.1 hc
    have ht:P.underlying t=some (.slice e):=by
     unfold elemT at he;split at he<;>simp_all
    split at hc
    ·rename_i hh
     injection hc with hc;subst hc
     simp only [evX] at h
     obtain ⟨m,hm,h⟩:=Option.bind_eq_some_iff.1 h
     split at h
     ·rename_i hg
      simp only [Option.some.injEq,Prod.mk.injEq] at h
      obtain ⟨rfl,rfl⟩:=h
      exact (x_mksl hnum hl ho ht hn hby hz hh.1 hh.2 hm hg.1 hg.2.1 hg.2.2.1 hg.2.2.2).upw
     ·cases h
    ·cases hc
   ·cases hc
  ·cases hc
 | slice t x lo hi mx =>
  rw [ho] at hc hk
  simp only [compOp0] at hc
  split at hc
  ·split at hc
   ·rename_i hz
    simp only [Bool.and_eq_true] at hz
    split at hc
    ·rename_i e ht
     obtain ⟨n,hn,rfl⟩:=Option.map_eq_some_iff.1 hc
     simp only [evX] at h
     split at h
     ·cases h
     ·rename_i hst
      obtain ⟨m,hm,h⟩:=Option.map_eq_some_iff.1 h
      simp only [Prod.mk.injEq] at h
      exact pure (x_slz hnum hl ho ⟨hz.1.1,hz.1.2,hz.2⟩ ht hn (hk x (by simp [Op.operands])) (by simpa using hst) hm) h.1 h.2.symm
    ·cases hc
   ·cases hc
  ·rename_i hmx
   have:mx=none:=by simpa using hmx
   subst this
   have hx:=hk x (by simp [Op.operands])
   have hlo:∀ y,lo=some y→okOpd y=true:=fun y e=>hk y (by subst e;simp [Op.operands])
   have hhi:∀ y,hi=some y→okOpd y=true:=fun y e=>hk y (by subst e;simp [Op.operands])
   have em:∀ z:Option Operand,(z.map (opd num)).map (ov E)=z.map fun x=>ov E (opd num x):=fun z=>by cases z<;>rfl
   split at hc
   ·rename_i e ht
    obtain ⟨n,hn,hc⟩:=Option.bind_eq_some_iff.1 hc
    split at hc
    ·rename_i h0
     injection hc with hc;subst hc
     simp only [evX] at h
     obtain ⟨d',hd,h⟩:=Option.map_eq_some_iff.1 h
     simp only [Prod.mk.injEq] at h
     rw [em,em] at hd
     exact pure (x_slc hnum hl ho ht hn h0 hx hlo hhi hd) h.1 h.2.symm
    ·cases hc
   ·rename_i ht
    injection hc with hc;subst hc
    simp only [evX] at h
    split at h
    ·rename_i str e1
     obtain ⟨⟨l,hh⟩,hd,h⟩:=Option.map_eq_some_iff.1 h
     simp only [Prod.mk.injEq] at h
     rw [em,em] at hd
     exact pure (x_sls hnum hl ho ht hx hlo hhi e1 hd) h.1 h.2.symm
    ·cases h
   ·cases hc
 | fieldAddr t x i =>
  rw [ho] at hc hk
  simp only [compOp0] at hc
  split at hc
  ·rename_i fs ht
   obtain ⟨f,hf,hc⟩:=Option.bind_eq_some_iff.1 hc
   obtain ⟨n,hn,hc⟩:=Option.bind_eq_some_iff.1 hc
   split at hc
   ·cases hc
   ·rename_i h0
    injection hc with hc;subst hc
    simp only [evX] at h
    split at h
    ·rename_i ds e1;simp only [Option.some.injEq,Prod.mk.injEq] at h
     exact pure (x_fad hnum hl ho ht hf hn h0 (hk x (by simp [Op.operands])) (.inl ⟨ds,e1,rfl⟩)) h.1 h.2.symm
    ·rename_i id sz e off e1;simp only [Option.some.injEq,Prod.mk.injEq] at h
     exact pure (x_fad hnum hl ho ht hf hn h0 (hk x (by simp [Op.operands])) (.inr ⟨id,sz,e,off,e1,rfl⟩)) h.1 h.2.symm
    ·cases h
  ·cases hc
 | field t x i =>
  rw [ho] at hc hk
  simp only [compOp0] at hc
  split at hc
  ·rename_i fs ht
   obtain ⟨f,hf,hc⟩:=Option.bind_eq_some_iff.1 hc
   obtain ⟨n,hn,hc⟩:=Option.bind_eq_some_iff.1 hc
   obtain ⟨ag,ha,rfl⟩:=Option.map_eq_some_iff.1 hc
   simp only [evX] at h
   split at h
   ·rename_i ds e1
    split at h
    ·rename_i hnt
     obtain ⟨d',hd,h⟩:=Option.map_eq_some_iff.1 h
     simp only [Prod.mk.injEq] at h
     exact pure (x_fld hnum hl ho ht hf hn ha (hk x (by simp [Op.operands])) e1 hnt hd) h.1 h.2.symm
    ·cases h
   ·cases h
  ·cases hc
 | indexAddr t x i =>
  rw [ho] at hc hk
  have hx:=hk x (by simp [Op.operands])
  have hi:=hk i (by simp [Op.operands])
  simp only [compOp0] at hc
  split at hc
  ·rename_i e ht
   obtain ⟨n,hn,hc⟩:=Option.bind_eq_some_iff.1 hc
   split at hc
   ·rename_i h0
    injection hc with hc;subst hc
    simp only [evX] at h
    obtain ⟨j,hj,h⟩:=Option.bind_eq_some_iff.1 h
    split at h
    ·rename_i sz' ds e1
     split at h
     ·rename_i es
      have e1':ov E (opd num x) = .sl n ds:=by rw [e1,es]
      obtain ⟨d',hd,h⟩:=Option.map_eq_some_iff.1 h
      simp only [Prod.mk.injEq] at h
      exact pure (x_ixs hnum hl ho ht hn h0 hx hi hj (.inl ⟨ds,d',e1',hd,rfl⟩)) h.1 h.2.symm
     ·cases h
    ·rename_i id sz' off len e1
     split at h
     ·rename_i es
      obtain ⟨rfl,hlt⟩:=es
      simp only [Option.some.injEq,Prod.mk.injEq] at h
      exact pure (x_ixs hnum hl ho ht hn h0 hx hi hj (.inr ⟨id,off,len,e1,hlt,rfl⟩)) h.1 h.2.symm
     ·cases h
    ·cases h
   ·cases hc
  ·rename_i len e ht
   obtain ⟨n,hn,rfl⟩:=Option.map_eq_some_iff.1 hc
   simp only [evX] at h
   obtain ⟨j,hj,h⟩:=Option.bind_eq_some_iff.1 h
   split at h
   ·rename_i hlt
    split at h
    ·rename_i ds e1
     simp only [Option.some.injEq,Prod.mk.injEq] at h
     exact pure (x_ixa hnum hl ho ht hn hx hi hj hlt (.inl ⟨ds,e1,rfl⟩)) h.1 h.2.symm
    ·rename_i id s e0 off e1
     simp only [Option.some.injEq,Prod.mk.injEq] at h
     exact pure (x_ixa hnum hl ho ht hn hx hi hj hlt (.inr ⟨id,s,e0,off,e1,rfl⟩)) h.1 h.2.symm
    ·cases h
   ·cases h
  ·cases hc
 | index t x i =>
  rw [ho] at hc hk
  have hx:=hk x (by simp [Op.operands])
  have hi:=hk i (by simp [Op.operands])
  simp only [compOp0] at hc
  split at hc
  ·rename_i ht
   injection hc with hc;subst hc
   simp only [evX] at h
   obtain ⟨j,hj,h⟩:=Option.bind_eq_some_iff.1 h
   split at h
   ·rename_i str e1
    obtain ⟨b,hb,h⟩:=Option.map_eq_some_iff.1 h
    simp only [Prod.mk.injEq] at h
    exact pure (x_ixt hnum hl ho ht hx hi hj e1 hb) h.1 h.2.symm
   ·cases h
  ·rename_i len e ht
   obtain ⟨n,hn,hc⟩:=Option.bind_eq_some_iff.1 hc
   obtain ⟨ag,ha,rfl⟩:=Option.map_eq_some_iff.1 hc
   simp only [evX] at h
   obtain ⟨j,hj,h⟩:=Option.bind_eq_some_iff.1 h
   split at h
   ·rename_i hlt
    split at h
    ·rename_i ds e1
     split at h
     ·rename_i hnt
      obtain ⟨d',hd,h⟩:=Option.map_eq_some_iff.1 h
      simp only [Prod.mk.injEq] at h
      exact pure (x_ixg hnum hl ho ht hn ha hx hi hj hlt e1 hnt hd) h.1 h.2.symm
     ·cases h
    ·cases h
   ·cases h
  ·cases hc
 | extract x i =>
  rw [ho] at hc hk;simp only [compOp0,Option.some.injEq] at hc;subst hc
  simp only [evX] at h
  split at h
  ·rename_i ds e1
   obtain ⟨d',hd,h⟩:=Option.bind_eq_some_iff.1 h
   split at h
   ·rename_i hn
    simp only [Option.some.injEq,Prod.mk.injEq] at h
    exact pure (x_ext hnum hl ho (hk x (by simp [Op.operands])) e1 hd hn) h.1 h.2.symm
   ·cases h
  ·cases h
 | call c =>
  rw [ho] at hc hk
  simp only [compOp0] at hc
  obtain ⟨callee,args,ts⟩:=c
  simp only [compCall] at hc
  split at hc
  ·rename_i f
   obtain ⟨g,hg,hsop⟩:=Option.map_eq_some_iff.1 hc
   have hfg:=hnum f g hg
   subst hfg
   have main:∀ {d'},r g (ovs E (opds num args)) H=some d'→DoesW P fid w A ι H (eaten own (eats E sop)) a o d' none:=by
    intro d' hd
    rw [ovs_opds] at hd
    obtain ⟨O,l⟩:=x_args hnum (E:=E) (xs:=args.toList) hl (fun x hx=>hk x (by simp [Op.operands,Call.operands];exact .inr (by simpa using hx)))
    refine call_doesW hr hl hob hal l hd fun hent=>?_
    have he:(⟨args.toList.map a.eval⟩:Array Value)=args.map a.eval:=by apply Array.ext';simp
    rw [he]
    have:=run_callFunc_enter (w:=w) (args:=args.map a.eval) hent
    simpa [execOp,ho,resolve,Deferred.ofValue,Act.eval,invoke,Sem.run_bind] using this
   split at hsop
   ·subst hsop
    simp only [evX] at h
    obtain ⟨d',hd,h⟩:=Option.bind_eq_some_iff.1 h
    obtain ⟨d2,hro,h⟩:=Option.map_eq_some_iff.1 h
    simp only [Prod.mk.injEq] at h
    obtain ⟨rfl,rfl⟩:=h
    intro K Q hK
    exact main hd K Q fun v w' A' O X=>hK v w' _ [] (X.ro hro)
   ·subst hsop
    cases q with
    | false=>simp [evX] at h
    | true =>
     simp only [evX] at h
     obtain ⟨d',hd,h⟩:=Option.map_eq_some_iff.1 h
     simp only [Prod.mk.injEq] at h
     obtain ⟨rfl,rfl⟩:=h
     exact main hd
  ·rename_i t
   injection hc with hc;subst hc
   cases q with
   | false=>simp [evX] at h
   | true =>
    simp only [evX,ov] at h
    split at h
    ·rename_i g caps e1
     obtain ⟨d',hd,h⟩:=Option.map_eq_some_iff.1 h
     simp only [Prod.mk.injEq] at h
     obtain ⟨rfl,rfl⟩:=h
     rw [ovs_opds] at hd
     obtain ⟨O,l⟩:=x_args hnum (E:=E) (xs:=args.toList) hl (fun x hx=>hk x (by simp [Op.operands,Call.operands];exact .inr (by simpa using hx)))
     have lf:=hl t
     rw [e1] at lf
     obtain ⟨cv,ef,lc⟩:=lf.inv_fn
     have lall:LVs fid w A ι true (args.toList.map a.eval++cv) (args.toList.map (fun x=>ov E (opd num x))++caps) (O++own t):=LVs.appendO l lc
     refine call_doesW hr hl hob hal lall hd fun hent=>?_
     have he:(⟨args.toList.map a.eval++cv⟩:Array Value)=args.map a.eval++⟨cv⟩:=by apply Array.ext';simp
     rw [he]
     have:=run_callFunc_enter (w:=w) (args:=args.map a.eval++⟨cv⟩) hent
     have hev:a.eval (.tmp t) = .func (.func (fid g)) #[] ⟨cv⟩:=ef
     simp only [execOp,ho,resolve,hev,Deferred.ofValue,invoke,Sem.run_bind,Sem.run_pure,Result.andThen_ok,Array.empty_append]
     exact this
    ·cases h
  ·rename_i b
   have hargs:∀ x,x∈args.toList→okOpd x=true:=fun x hx=>hk x (by simp [Op.operands,Call.operands];simpa using hx)
   simp only [compBuiltin] at hc
   split at hc
   ·rename_i x t ea et
    have ea':args=#[x]:=by apply Array.ext';simpa using ea
    have et':ts=#[t]:=by apply Array.ext';simpa using et
    subst ea';subst et'
    have hx:=hargs x (by simp)
    split at hc
    ·rename_i ht
     injection hc with hc;subst hc
     simp only [evX] at h
     split at h
     ·rename_i hs
      obtain ⟨n,hn,h⟩:=Option.map_eq_some_iff.1 h
      simp only [Prod.mk.injEq] at h
      refine pure (x_len (t':=0) hnum hl ho (.inr ht) hx hn ?_) h.1 h.2.symm
      constructor
      ·rintro ⟨e,he⟩;rw [ht] at he;cases he
      ·intro hh
       unfold isStr at hs
       split at hs
       ·rename_i s0 e0;exact (hh s0 e0).elim
       ·cases hs
     ·cases h
    ·rename_i e ht
     injection hc with hc;subst hc
     simp only [evX] at h
     split at h
     ·cases h
     ·rename_i hs
      obtain ⟨n,hn,h⟩:=Option.map_eq_some_iff.1 h
      simp only [Prod.mk.injEq] at h
      refine pure (x_len (t':=0) hnum hl ho (.inl ⟨e,ht⟩) hx hn ?_) h.1 h.2.symm
      exact ⟨fun _ s0 e0=>hs (by rw [e0];rfl),fun _=>⟨e,ht⟩⟩
    ·rename_i n e ht
     injection hc with hc;subst hc
     simp only [evX,ov,noTree,if_true,Option.some.injEq,Prod.mk.injEq] at h
     refine pure ⟨.int .i64 n,?_, .sc _ rfl⟩ h.1 h.2.symm
     simp only [execOp,ho,resolve,invoke,builtin,Sem.run_bind,Sem.run_pure,Result.andThen_ok,List.map_toArray,List.map_cons,List.map_nil]
     simp [Builtin.len_,run_underlying ht,goInt,Sem.run_bind]
    ·cases hc
   ·rename_i x y t u' ea et
    have ea':args=#[x,y]:=by apply Array.ext';simpa using ea
    have et':ts=#[t,u']:=by apply Array.ext';simpa using et
    subst ea';subst et'
    obtain ⟨e,he,hc⟩:=Option.bind_eq_some_iff.1 hc
    obtain ⟨n,hn,hc⟩:=Option.bind_eq_some_iff.1 hc
    obtain ⟨by_,hby,hc⟩:=Option.bind_eq_some_iff.1 hc
    obtain ⟨du,hdu,hc⟩:=Option.bind_eq_some_iff.1 hc
    have ht:P.underlying t=some (.slice e):=by
     unfold elemT at he;split at he<;>simp_all
    split at hc
    ·rename_i kn
     obtain ⟨z,hz,hc⟩:=Option.bind_eq_some_iff.1 hc
     split at hc
     ·rename_i hh
      injection hc with hc;subst hc
      simp only [evX] at h
      split at h
      ·rename_i hsn
       obtain ⟨m,hm,h⟩:=Option.bind_eq_some_iff.1 h
       split at h
       ·rename_i hg
        simp only [Option.some.injEq,Prod.mk.injEq] at h
        obtain ⟨rfl,rfl⟩:=h
        exact (x_appz hnum hl ho ht hdu hn hby hz hh.1 hh.2 (hargs x (by simp)) (hargs y (by simp)) hsn hm hg.1 hg.2.1 hg.2.2.1 hg.2.2.2.1 hg.2.2.2.2).upw
       ·cases h
      ·cases h
     ·cases hc
    split at hc
    ·rename_i hh
     injection hc with hc;subst hc
     simp only [evX] at h
     obtain ⟨ys,hy,h⟩:=Option.bind_eq_some_iff.1 h
     exact (x_append hnum hl hob ho hh.2.1 ht hdu hh.1 hn hby hh.2.2.1 hh.2.2.2 (hargs x (by simp)) (hargs y (by simp)) hy h).upw
    ·cases hc
   ·rename_i x y t u' ea et
    have ea':args=#[x,y]:=by apply Array.ext';simpa using ea
    have et':ts=#[t,u']:=by apply Array.ext';simpa using et
    subst ea';subst et'
    obtain ⟨e,he,hc⟩:=Option.bind_eq_some_iff.1 hc
    obtain ⟨n,hn,hc⟩:=Option.bind_eq_some_iff.1 hc
    have ht:P.underlying t=some (.slice e):=by
     unfold elemT at he;split at he<;>simp_all
    split at hc
    ·rename_i h0
     injection hc with hc;subst hc
     simp only [evX] at h
     obtain ⟨ys,hy,h⟩:=Option.bind_eq_some_iff.1 h
     exact (x_copy hnum hl hob ho h0 ht hn (hargs x (by simp)) (hargs y (by simp)) hy h).upw
    ·cases hc
   ·rename_i x t ea et
    have ea':args=#[x]:=by apply Array.ext';simpa using ea
    have et':ts=#[t]:=by apply Array.ext';simpa using et
    subst ea';subst et'
    obtain ⟨e,he,rfl⟩:=Option.map_eq_some_iff.1 hc
    have ht:P.underlying t=some (.slice e):=by
     unfold elemT at he;split at he<;>simp_all
    simp only [evX] at h
    split at h
    ·rename_i e1
     simp only [Option.some.injEq,Prod.mk.injEq] at h
     exact pure (x_capn hnum hl ho ht (hargs x (by simp)) e1) h.1 h.2.symm
    ·cases h
   ·rename_i x t ea et
    have ea':args=#[x]:=by apply Array.ext';simpa using ea
    have et':ts=#[t]:=by apply Array.ext';simpa using et
    subst ea';subst et'
    obtain ⟨e,he,hc⟩:=Option.bind_eq_some_iff.1 hc
    obtain ⟨z,hz,rfl⟩:=Option.map_eq_some_iff.1 hc
    have ht:P.underlying t=some (.slice e):=by
     unfold elemT at he;split at he<;>simp_all
    simp only [evX] at h
    exact (x_clr hnum hl hob ho ht hz (hargs x (by simp)) h).upw
   ·rename_i x y ea
    have ea':args=#[x,y]:=by apply Array.ext';simpa using ea
    subst ea'
    injection hc with hc;subst hc
    simp only [evX] at h
    obtain ⟨d',hd,h⟩:=Option.map_eq_some_iff.1 h
    simp only [Prod.mk.injEq] at h
    exact pure (x_mx hnum hl ho (hargs x (by simp)) (hargs y (by simp)) hd) h.1 h.2.symm
   ·rename_i x y ea
    have ea':args=#[x,y]:=by apply Array.ext';simpa using ea
    subst ea'
    injection hc with hc;subst hc
    simp only [evX] at h
    obtain ⟨d',hd,h⟩:=Option.map_eq_some_iff.1 h
    simp only [Prod.mk.injEq] at h
    exact pure (x_mn hnum hl ho (hargs x (by simp)) (hargs y (by simp)) hd) h.1 h.2.symm
   ·cases hc
  ·cases hc
 | makeMap t r =>
  rw [ho] at hc hk
  simp only [compOp0] at hc
  split at hc
  ·rename_i hr
   injection hc with hc;subst hc
   cases r with
   | some _=>simp at hr
   | none =>
    simp only [evX,Option.some.injEq,Prod.mk.injEq] at h
    obtain ⟨rfl,rfl⟩:=h
    exact (x_mkm ho).upw
  ·cases hc
 | mapUpdate t m k v =>
  rw [ho] at hc hk
  have h1:=hk m (by simp [Op.operands])
  have h2:=hk k (by simp [Op.operands])
  have h3:=hk v (by simp [Op.operands])
  simp only [compOp0] at hc
  obtain ⟨⟨kt,et⟩,ht,hc⟩:=Option.bind_eq_some_iff.1 hc
  obtain ⟨ks,hks,hc⟩:=Option.bind_eq_some_iff.1 hc
  obtain ⟨ag,hag,rfl⟩:=Option.map_eq_some_iff.1 hc
  simp only [evX] at h
  split at h
  ·rename_i id e1
   split at h
   ·rename_i kk vv hH
    split at h
    ·rename_i hh
     simp only [Bool.and_eq_true] at hh
     obtain ⟨⟨⟨⟨hro,hrov⟩,hn⟩,hnv⟩,hs⟩:=hh
     obtain ⟨r,hr,h⟩:=Option.map_eq_some_iff.1 h
     simp only [Prod.mk.injEq] at h
     obtain ⟨rfl,rfl⟩:=h
     have hs':eqK ag ks (ov E (opd num k)) (ov E (opd num k))=some true:=by unfold isSomeTrue at hs;split at hs<;>simp_all
     exact (x_mup hnum hl hob (.inl ho) ht hks hag h1 h2 h3 e1 hH hn hnv hro hrov hs' hr).upw
    ·cases h
   ·cases h
  ·cases h
 | insert t m k v =>
  rw [ho] at hc hk
  have h1:=hk m (by simp [Op.operands])
  have h2:=hk k (by simp [Op.operands])
  have h3:=hk v (by simp [Op.operands])
  simp only [compOp0] at hc
  obtain ⟨⟨kt,et⟩,ht,hc⟩:=Option.bind_eq_some_iff.1 hc
  obtain ⟨ks,hks,hc⟩:=Option.bind_eq_some_iff.1 hc
  obtain ⟨ag,hag,rfl⟩:=Option.map_eq_some_iff.1 hc
  simp only [evX] at h
  split at h
  ·rename_i id e1
   split at h
   ·rename_i kk vv hH
    split at h
    ·rename_i hh
     simp only [Bool.and_eq_true] at hh
     obtain ⟨⟨⟨⟨hro,hrov⟩,hn⟩,hnv⟩,hs⟩:=hh
     obtain ⟨r,hr,h⟩:=Option.map_eq_some_iff.1 h
     simp only [Prod.mk.injEq] at h
     obtain ⟨rfl,rfl⟩:=h
     have hs':eqK ag ks (ov E (opd num k)) (ov E (opd num k))=some true:=by unfold isSomeTrue at hs;split at hs<;>simp_all
     exact (x_mup hnum hl hob (.inr ho) ht hks hag h1 h2 h3 e1 hH hn hnv hro hrov hs' hr).upw
    ·cases h
   ·cases h
  ·cases h
 | lookup t m k ok =>
  rw [ho] at hc hk
  have h1:=hk m (by simp [Op.operands])
  have h2:=hk k (by simp [Op.operands])
  simp only [compOp0] at hc
  obtain ⟨⟨kt,et⟩,ht,hc⟩:=Option.bind_eq_some_iff.1 hc
  obtain ⟨ks,hks,hc⟩:=Option.bind_eq_some_iff.1 hc
  obtain ⟨ag,hag,hc⟩:=Option.bind_eq_some_iff.1 hc
  obtain ⟨z,hz,rfl⟩:=Option.map_eq_some_iff.1 hc
  simp only [evX] at h
  split at h
  ·rename_i id e1
   split at h
   ·rename_i kk vv hH
    split at h
    ·rename_i hh
     simp only [Bool.and_eq_true] at hh
     obtain ⟨hn,hs⟩:=hh
     obtain ⟨r,hr,h⟩:=Option.bind_eq_some_iff.1 h
     have hs':eqK ag ks (ov E (opd num k)) (ov E (opd num k))=some true:=by unfold isSomeTrue at hs;split at hs<;>simp_all
     obtain ⟨d',hd,h⟩:=Option.map_eq_some_iff.1 h
     simp only [Prod.mk.injEq] at h
     exact pure (x_lkp hnum hl hob ho ht hks hag hz h1 h2 e1 hH hn hs' hr hd) h.1 h.2.symm
    ·cases h
   ·cases h
  ·cases h
 | _=>rw [ho] at hc;simp [compOp0] at hc
end
end Lg
