import Derived.Test.YtlpchliomdomdaaGreatPt0
import Derived.WalkKit
import Derived.Laws.Strings
import Derived.Lib.Strings
import Derived.Laws.Tables
import Derived.Laws.BytesArg
import Derived.Lib.ConvBytes
import Derived.Laws.MakeOwn
import Derived.Laws.StructEq
import Derived.MapKept
import Derived.Lib.AppendZeros
namespace Lg
open Go
set_option linter.unusedSectionVars false
set_option linter.unusedVariables false
set_option linter.unusedSimpArgs false
section
variable {P:Program} {o:Oper} {a:Act} {K:Act→World→Prop} {Q:Exit→Act→World→Prop} {w w':World}
theorem wp_value {v:Value} (h:(execOp a.eval o).run P w = .ok (.value v) w') (k:K (a.put o.dst v) w'):o.wp P a w K Q:=by
 unfold Oper.wp;rw [h];exact k
theorem wp_skipped (h:(execOp a.eval o).run P w = .ok .skip w') (k:K (a.put o.dst undef) w'):o.wp P a w K Q:=by
 unfold Oper.wp;rw [h];exact k
theorem run_v {s:Sem Value} {v:Value} (h:s.run P w = .ok v w'):(do pure (Next.value (←s)):Sem Next).run P w = .ok (.value v) w':=by
 simp [Sem.run_bind,h]
theorem run_u {s:Sem Unit} (h:s.run P w = .ok () w'):(do s;pure Next.skip:Sem Next).run P w = .ok .skip w':=by
 simp [Sem.run_bind,h]
end
section
variable {fid:Nat→FuncId} {w w':World} {A A':Av} {ι:Io} {H:List Ob} {eo:List Nat} {r:Bool} {v:Value} {d:D} {O:List Nat}
theorem XR.val (h:LV fid w A ι true v d []):XR fid w w A A ι H eo v d none [] :=
 ⟨Keep.refl _ _ _,h,(by intro i o e;cases e),List.nodup_nil,by simp⟩
theorem XR.new (K:Keep w w' A A' (fun _=>False)) (h:LV fid w' A' ι true v d O) (hn:O.Nodup) (hO:∀ b,b∈O→w.heap.size≤b):XR fid w w' A A' ι H eo v d none O :=
 ⟨K.mono (fun _ h=>h.elim),h,(by intro i o e;cases e),hn,fun b hb=> .inr (.inr (hO b hb))⟩
theorem LV.inv_sc {x:Value} (h:LV fid w A ι r v (.sc x) O):v=x∧isSc x=true∧O=[]:=by
 cases h with | sc _ h=>exact ⟨rfl,h,rfl⟩
theorem LV.inv_int {k:IntKind} {n:Int} (h:LV fid w A ι r v (.sc (.int k n)) O):v = .int k n∧O=[]:=⟨h.inv_sc.1,h.inv_sc.2.2⟩
theorem LV.inv_bool {x:Bool} (h:LV fid w A ι r v (.sc (.bool x)) O):v = .bool x∧O=[]:=⟨h.inv_sc.1,h.inv_sc.2.2⟩
theorem LV.inv_str {s:ByteArray} (h:LV fid w A ι r v (.sc (.string s)) O):v = .string s∧O=[]:=⟨h.inv_sc.1,h.inv_sc.2.2⟩
theorem LV.inv_agg {ds:List D} (h:LV fid w A ι r v (.agg ds) O):∃ vs,v = .agg ⟨vs⟩∧LVs fid w A ι r vs ds O:=by
 cases h with | agg vs _ _ h=>exact ⟨vs,rfl,h⟩
theorem LV.inv_tup {ds:List D} (h:LV fid w A ι r v (.tup ds) O):∃ vs,v = .tuple ⟨vs⟩∧LVs fid w A ι r vs ds O:=by
 cases h with | tup vs _ _ h=>exact ⟨vs,rfl,h⟩
theorem LV.inv_fn {f:Nat} {ds:List D} (h:LV fid w A ι r v (.fn f ds) O):∃ vs,v = .func (.func (fid f)) #[] ⟨vs⟩∧LVs fid w A ι r vs ds O:=by
 cases h with | fn _ vs _ _ h=>exact ⟨vs,rfl,h⟩
theorem LV.inv_nl (h:LV fid w A ι r v .nl O):v = .pointer none∧O=[]:=by cases h;exact ⟨rfl,rfl⟩
theorem LV.inv_sn (h:LV fid w A ι r v .sn O):∃ a,v = .slice a 0 0∧O=[]:=by cases h;exact ⟨_,rfl,rfl⟩
theorem LV.inv_pt {id sz e off:Nat} (h:LV fid w A ι r v (.pt id sz e off) O):∃ b,ι id=some (some b)∧v = .pointer (some ⟨b,e*sz+off,none⟩)∧O=[]∧r=true:=by
 cases h with | pt _ _ _ _ b hi=>exact ⟨b,hi,rfl,rfl,rfl⟩
theorem LV.inv_ep {ds:List D} (h:LV fid w A ι r v (.ep ds) O):∃ ad vs,v = .pointer (some ad)∧O=[]∧LVs fid w A ι false vs ds []∧(∀ v,v∈vs→v.oneCell'=true) ∧
  ∀ (k:Nat) (v:Value),vs[k]? = some v→¬A ad.block (ad.off+k)∧w.cell? (ad.add k)=some v:=by
 cases h with | ep ad _ vs h h1 hr=>exact ⟨ad,vs,rfl,rfl,h,h1,hr⟩
theorem LV.inv_sl {sz:Nat} {ds:List D} (h:LV fid w A ι r v (.sl sz ds) O):∃ a cap vs,v = .slice a ds.length cap∧O=[]∧ds.length≤cap∧(∀ d,d∈ds→d.cells.length=sz)∧LVs fid w A ι false vs (flat ds) [] ∧
  (∀ v,v∈vs→v.oneCell'=true)∧∀ (k:Nat) (v:Value),vs[k]? = some v→∃ ad,a=some ad∧¬A ad.block (ad.off+k)∧w.cell? (ad.add k)=some v:=by
 cases h with | sl a n cap _ _ vs hn hc hu h h1 hr=>subst hn;exact ⟨a,cap,vs,rfl,rfl,hc,hu,h,h1,hr⟩
theorem LV.inv_rf {id sz off len:Nat} (h:LV fid w A ι r v (.rf id sz off len) O):∃ a cap q,v = .slice a len cap∧O=[]∧r=true∧ι id=some q∧(q=none→len=0∧cap=0∧off=0) ∧
  ∀ b,q=some b→(a=some ⟨b,off*sz,none⟩∨cap=0)∧len≤cap∧∃ (cs:Array Value) (T:TypeId) (fr:Nat×Nat),w.heap[b]? = some (Obj.cells cs T fr)∧(off+cap)*sz≤cs.size:=by
 cases h with | rf a _ _ _ _ cap q hi h0 h1=>exact ⟨a,cap,q,rfl,rfl,rfl,hi,h0,h1⟩
theorem LV.inv_len {n:Nat} (h:LV fid w A ι r v d O) (hl:lenD d=some n):(∃ a cap,v = .slice a n cap)∨∃ s,v = .string s∧s.data.toList.length=n:=by
 cases d<;>simp [lenD] at hl
 case sl sz ds=>obtain ⟨a,cap,vs,rfl,_⟩:=h.inv_sl;exact .inl ⟨a,cap,by rw [hl]⟩
 case osl wr sz ds =>
  cases h with
  | osln a=>exact .inl ⟨a,0,by simp at hl;rw [←hl]⟩
  | osl b cap _ _ _ vs=>exact .inl ⟨_,cap,by rw [hl]⟩
 case sn=>obtain ⟨a,rfl,_⟩:=h.inv_sn;exact .inl ⟨a,0,by rw [←hl]⟩
 case rf id sz off len=>obtain ⟨a,cap,q,rfl,_⟩:=h.inv_rf;exact .inl ⟨a,cap,by rw [hl]⟩
 case sc x =>
  obtain ⟨rfl,hx,_⟩:=h.inv_sc
  cases v<;>simp at hl
  exact .inr ⟨_,rfl,by simpa using hl⟩
end
section
variable {num:FuncId→Option Nat} {fid:Nat→FuncId} (hnum:∀ f g,num f=some g→fid g=f)
include hnum
theorem lv_leaf {w:World} {A:Av} {ι:Io} {r:Bool} (v:Value) (h:notAgg v=true):LV fid w A ι r v (dLeaf v) []:=by
 unfold dLeaf
 split
 ·exact .sc _ rfl
 ·exact .sc _ rfl
 ·exact .sc _ rfl
 ·exact .nl
 ·exact .sn _
 ·simp [notAgg] at h
 ·exact .un _
 ·rename_i h1 h2 h3 h4 h5 h6 h7
  refine .uk _ ?_
  cases v<;>simp_all [Value.oneCell']
theorem lv_leaves {w:World} {A:Av} {ι:Io} {r:Bool} (vs:List Value) (h:vs.all notAgg=true):LVs fid w A ι r vs (vs.map dLeaf) []:=by
 induction vs with
 | nil=>exact .nil
 | cons v vs ih =>
  simp only [List.all_cons,Bool.and_eq_true] at h
  exact LVs.cons' (lv_leaf hnum v h.1) (ih h.2)
theorem lv_const {w:World} {A:Av} {ι:Io} {r:Bool} (v:Value) (h:okOpd (.const v)=true):LV fid w A ι r v (dVal v) []:=by
 unfold dVal
 split
 ·rename_i cs
  refine .agg cs.toList _ [] (lv_leaves hnum _ ?_)
  simp only [okOpd] at h
  rw [List.all_eq_true] at h ⊢
  intro x hx
  have:=h x hx
  cases x<;>simp_all [notAgg]
 ·refine lv_leaf hnum v ?_
  cases v<;>simp_all [notAgg]
def ownX (own:Nat→List Nat):Operand→List Nat
 | .tmp t=>own t
 | _=>[]
theorem lv_opd {w:World} {A:Av} {ι:Io} {a:Act} {E:Env} {own:Nat→List Nat} (hl:∀ t,LV fid w A ι true (a.tmps.getD t undef) (lk E t) (own t)) (x:Operand) (hx:okOpd x=true) :
  LV fid w A ι true (a.eval x) (ov E (opd num x)) (ownX own x):=by
 cases x with
 | tmp t=>exact hl t
 | const v=>exact lv_const hnum v hx
 | global g=>exact .un _
 | func f =>
  simp only [opd,Act.eval,ownX]
  split
  ·rename_i g hg
   have:=hnum f g hg
   subst this
   exact .fn g [] [] [] .nil
  ·exact .un _
end
end Lg
namespace Lg
open Go
set_option linter.unusedVariables false
set_option linter.unusedSimpArgs false
set_option linter.unusedSectionVars false
section
variable {P:Program} {num:FuncId→Option Nat} {fid:Nat→FuncId} (hnum:∀ f g,num f=some g→fid g=f)
 {w:World} {A:Av} {ι:Io} {a:Act} {E:Env} {own:Nat→List Nat} (hl:∀ t,LV fid w A ι true (a.tmps.getD t undef) (lk E t) (own t)) {o:Oper} {d:D}
def Pure1 (P:Program) (fid:Nat→FuncId) (w:World) (A:Av) (ι:Io) (a:Act) (o:Oper) (d:D):Prop :=
 ∃ v,(execOp a.eval o).run P w = .ok (.value v) w∧LV fid w A ι true v d []
include hnum hl
theorem x_mv {x:Operand} (ho:o.op = .move x∨o.op = .assign x) (hx:okOpd x=true) (hn:noTree (ov E (opd num x))=true):Pure1 P fid w A ι a o (ov E (opd num x)):=by
 have h:=lv_opd hnum hl x hx
 have e:=h.noTree hn
 rw [e] at h
 refine ⟨a.eval x,?_,h⟩
 rcases ho with ho | ho<;>simp [execOp,ho]
theorem x_pick {c x y:Operand} (ho:o.op = .pick c x y) (hc:okOpd c=true) (hx:okOpd x=true) (hy:okOpd y=true) {b:Bool} (hb:ov E (opd num c) = .sc (.bool b))
  (h1:noTree (if b then ov E (opd num x) else ov E (opd num y))=true):Pure1 P fid w A ι a o (if b then ov E (opd num x) else ov E (opd num y)):=by
 have hcv:=lv_opd hnum hl c hc
 rw [hb] at hcv
 have e:=hcv.inv_bool.1
 have kx:=lv_opd hnum hl x hx
 have ky:=lv_opd hnum hl y hy
 cases b
 ·simp only [Bool.false_eq_true,if_false] at h1
  rw [ky.noTree h1] at ky
  refine ⟨a.eval y,?_,by simpa using ky⟩
  simp [execOp,ho,e,asBool,Sem.run_bind]
 ·simp only [if_true] at h1
  rw [kx.noTree h1] at kx
  refine ⟨a.eval x,?_,by simpa using kx⟩
  simp [execOp,ho,e,asBool,Sem.run_bind]
omit hnum hl in
theorem i64max:IntKind.i64.max=9223372036854775807:=rfl
omit hnum hl in
theorem run_equal_bool {t:TypeId} (ht:P.underlying t=some .bool) (b1 b2:Bool):(Op.equal t (.bool b1) (.bool b2)).run P w = .ok (b1 == b2) w:=by
 have:∀ n,(Op.equalIn (n+1) t (.bool b1) (.bool b2)).run P w = .ok (b1 == b2) w:=by
  intro n
  simp only [Op.equalIn,Sem.run_bind,run_underlying ht,Result.andThen_ok,Sem.run_pure]
 exact this 9999
omit hnum hl in
theorem run_guard_plain (op:BinOp) (t:TypeId) (x y:Operand) (u v:Value) (h:(∀ cs,u≠ .agg cs)∧u≠ .nilIface):(eqGuard op t x y u v).run P w = .ok () w:=by
 obtain ⟨h1,h2⟩:=h
 unfold eqGuard
 cases u<;>simp at h1 h2 ⊢<;>(split<;>rfl)
omit hnum hl in
theorem run_bin_int (op:BinOp) (t:TypeId) (x y:Operand) (k k':IntKind) (m n:Int) (v:Value)
  (h:(match op with | .shl=>shI .shl k m n | .shr=>shI .shr k m n | op=>if k=k' then binI op k m n else none)=some v) :
  (do eqGuard op t x y (.int k m) (.int k' n);binOp op t (.int k m) (.int k' n)).run P w = .ok v w:=by
 rw [Sem.run_bind,run_guard_plain op t x y _ _ ⟨by simp,by simp⟩]
 simp only [Result.andThen_ok]
 cases op<;>simp only [binOp] at h ⊢<;>simp_all [Op.intArith,Op.intDiv,Op.intBits,Op.intCmp,Op.shift,binI,shI] <;>
  first
   | (obtain ⟨h1,h2⟩:=h;subst h1;simp [←h2];done)
   | (obtain ⟨h1,h2,h3⟩:=h;subst h1;simp [h2,←h3];done)
   | (intro hh;omega)
theorem x_bin {op:BinOp} {t t':TypeId} {x y:Operand} (ho:o.op = .binOp op t x y t') (hx:okOpd x=true) (hy:okOpd y=true) (h:binD op (ov E (opd num x)) (ov E (opd num y))=some d):Pure1 P fid w A ι a o d:=by
 have kx:=lv_opd hnum hl x hx
 have ky:=lv_opd hnum hl y hy
 generalize ov E (opd num x)=dx at kx h
 generalize ov E (opd num y)=dy at ky h
 have key:∃ v,(do eqGuard op t x y (a.eval x) (a.eval y);binOp op t (a.eval x) (a.eval y)).run P w = .ok v w∧d = .sc v∧isSc v=true:=by
  unfold binD at h
  split at h
  ·rename_i k m k' n
   rw [kx.inv_int.1,ky.inv_int.1]
   obtain ⟨v,hv,rfl⟩:=Option.map_eq_some_iff.1 h
   refine ⟨v,run_bin_int .shl t x y k k' m n v hv,rfl,?_⟩
   simp only [shI] at hv;split at hv<;>simp at hv;subst hv;rfl
  ·rename_i k m k' n
   rw [kx.inv_int.1,ky.inv_int.1]
   obtain ⟨v,hv,rfl⟩:=Option.map_eq_some_iff.1 h
   refine ⟨v,run_bin_int .shr t x y k k' m n v hv,rfl,?_⟩
   simp only [shI] at hv;split at hv<;>simp at hv;subst hv;rfl
  ·rename_i k m k' n n1 n2
   rw [kx.inv_int.1,ky.inv_int.1]
   split at h
   ·rename_i e
    obtain ⟨v,hv,rfl⟩:=Option.map_eq_some_iff.1 h
    refine ⟨v,run_bin_int op t x y k k' m n v ?_,rfl,?_⟩
    ·split
     ·exact (n1 rfl).elim
     ·exact (n2 rfl).elim
     ·rw [if_pos e];exact hv
    ·cases op<;>simp [binI] at hv<;>first | (subst hv;rfl) | (obtain ⟨_,hv⟩:=hv;subst hv;rfl)
   ·cases h
  ·rename_i s1 s2
   rw [kx.inv_str.1,ky.inv_str.1]
   obtain ⟨v,hv,rfl⟩:=Option.map_eq_some_iff.1 h
   refine ⟨v,?_,rfl,?_⟩
   ·rw [Sem.run_bind,run_guard_plain op t x y _ _ ⟨by simp,by simp⟩]
    simp only [Result.andThen_ok]
    cases op<;>simp only [binS] at hv<;>try (cases hv;done)
    ·split at hv
     ·rename_i hb
      injection hv with hv;subst hv
      have e1:s1.size=s1.data.toList.length:=by simp
      have e2:s2.size=s2.data.toList.length:=by simp
      simp only [binOp,Op.stringOp]
      rw [if_neg (by rw [e1,e2,i64max];unfold strMax at hb;omega)]
      simp only [Sem.run_pure]
      congr 2
     ·cases hv
    ·injection hv with hv;subst hv
     simp [binOp,Op.stringOp,ByteArray.toList_eq]
    ·injection hv with hv;subst hv
     simp only [binOp,Op.stringOp,ByteArray.toList_eq,Sem.run_pure,bne]
   ·cases op<;>simp only [binS] at hv<;>try (cases hv;done)
    ·split at hv<;>simp at hv;subst hv;rfl
    ·injection hv with hv;subst hv;rfl
    ·injection hv with hv;subst hv;rfl
  ·cases h
 obtain ⟨v,hr,rfl,hs⟩:=key
 refine ⟨v,?_, .sc v hs⟩
 simp only [execOp,ho]
 exact run_v hr
theorem x_binb {op:BinOp} {t t':TypeId} {x y:Operand} (ho:o.op = .binOp op t x y t') (ht:P.underlying t=some .bool) (hx:okOpd x=true) (hy:okOpd y=true)
  (h:binbD op (ov E (opd num x)) (ov E (opd num y))=some d):Pure1 P fid w A ι a o d:=by
 have kx:=lv_opd hnum hl x hx
 have ky:=lv_opd hnum hl y hy
 generalize ov E (opd num x)=dx at kx h
 generalize ov E (opd num y)=dy at ky h
 unfold binbD at h
 split at h
 ·rename_i b1 b2
  obtain ⟨v,hv,rfl⟩:=Option.map_eq_some_iff.1 h
  have hr:(do eqGuard op t x y (a.eval x) (a.eval y);binOp op t (a.eval x) (a.eval y)).run P w = .ok v w∧isSc v=true:=by
   rw [kx.inv_bool.1,ky.inv_bool.1,Sem.run_bind,run_guard_plain op t x y _ _ ⟨by simp,by simp⟩]
   simp only [Result.andThen_ok]
   cases op<;>simp only [binB] at hv<;>try (cases hv;done)
   all_goals (injection hv with hv;subst hv)
   all_goals simp only [binOp,Sem.run_bind,run_equal_bool ht,Result.andThen_ok,Sem.run_pure,isSc,and_self,and_true]
   all_goals cases b1<;>cases b2<;>rfl
  refine ⟨v,?_, .sc v hr.2⟩
  simp only [execOp,ho]
  exact run_v hr.1
 ·cases h
theorem x_una {op:UnOp} {t:TypeId} {x:Operand} (ho:o.op = .unOp op t x) (hx:okOpd x=true) (h:unaD op (ov E (opd num x))=some d):Pure1 P fid w A ι a o d:=by
 have kx:=lv_opd hnum hl x hx
 generalize ov E (opd num x)=dx at kx h
 unfold unaD at h
 split at h
 ·rename_i k n
  injection h with h;subst h
  refine ⟨_,?_, .sc _ rfl⟩
  simp only [execOp,ho]
  refine run_v ?_
  rw [kx.inv_int.1];simp [Op.unary,Op.intArith]
 ·rename_i b
  injection h with h;subst h
  refine ⟨_,?_, .sc _ rfl⟩
  simp only [execOp,ho]
  refine run_v ?_
  rw [kx.inv_bool.1];simp [Op.unary]
 ·cases h
theorem x_cvi {s t:TypeId} {x:Operand} {k0 k:IntKind} (ho:o.op = .convert s t x) (h1:P.underlying s=some (.int k0)) (h2:P.underlying t=some (.int k)) (hx:okOpd x=true) (h:cviD k (ov E (opd num x))=some d):Pure1 P fid w A ι a o d:=by
 have kx:=lv_opd hnum hl x hx
 generalize ov E (opd num x)=dx at kx h
 unfold cviD at h
 split at h
 ·rename_i k' n
  injection h with h;subst h
  refine ⟨_,?_, .sc _ rfl⟩
  simp only [execOp,ho]
  refine run_v ?_
  rw [kx.inv_int.1];simp [convert,run_underlying h1,run_underlying h2,Sem.run_bind,Conv.intToInt]
 ·cases h
theorem x_cvs {s t:TypeId} {x:Operand} {str:ByteArray} (ho:o.op = .convert s t x) (h1:P.underlying s=some .string) (h2:P.underlying t=some .string) (hx:okOpd x=true) (h:ov E (opd num x) = .sc (.string str)):Pure1 P fid w A ι a o (.sc (.string str)):=by
 have kx:=lv_opd hnum hl x hx
 rw [h] at kx
 refine ⟨_,?_, .sc _ rfl⟩
 simp only [execOp,ho]
 refine run_v ?_
 rw [kx.inv_str.1];simp [convert,run_underlying h1,run_underlying h2,Sem.run_bind]
theorem x_ext {x:Operand} {i:Nat} {ds:List D} (ho:o.op = .extract x i) (hx:okOpd x=true) (h:ov E (opd num x) = .tup ds) (hd:ds[i]? = some d) (hn:noTree d=true):Pure1 P fid w A ι a o d:=by
 have kx:=lv_opd hnum hl x hx
 rw [h] at kx
 obtain ⟨vs,e,hv⟩:=kx.inv_tup
 have key:∀ (vs:List Value) (ds:List D) (O:List Nat) (i:Nat),LVs fid w A ι true vs ds O→ds[i]? = some d→∃ v O',vs[i]? = some v∧LV fid w A ι true v d O':=by
  intro vs
  induction vs with
  | nil=>intro ds O i h hd;cases h;simp at hd
  | cons v vs ih =>
   intro ds O i h hd
   cases h with
   | cons _ d' O1 _ ds O2 h hs =>
    cases i with
    | zero=>simp at hd;subst hd;exact ⟨v,O1,rfl,h⟩
    | succ i=>simp at hd;simpa using ih ds O2 i hs hd
 obtain ⟨v,O',hv1,hv2⟩:=key vs ds _ i hv hd
 rw [hv2.noTree hn] at hv2
 refine ⟨v,?_,hv2⟩
 simp only [execOp,ho]
 refine run_v ?_
 rw [e]
 simp [Instr.extract,hv1]
theorem x_len {t t':TypeId} {x:Operand} {n:Nat} (ho:o.op = .call {callee:= .builtin .len,args:=#[x],argTypes:=#[t]}) (ht:(∃ e,P.underlying t=some (.slice e))∨P.underlying t=some .string)
  (hx:okOpd x=true) (h:lenD (ov E (opd num x))=some n) (hs:(∃ e,P.underlying t=some (.slice e))↔∀ s,ov E (opd num x)≠ .sc (.string s)):Pure1 P fid w A ι a o (.sc (.int .i64 n)):=by
 have kx:=lv_opd hnum hl x hx
 refine ⟨.int .i64 n,?_, .sc _ rfl⟩
 simp only [execOp,ho,resolve,invoke,builtin,Sem.run_bind,Sem.run_pure,Result.andThen_ok,List.map_toArray,List.map_cons,List.map_nil]
 rcases kx.inv_len h with ⟨ad,cap,e⟩ | ⟨s,e,hn⟩
 ·rw [e]
  obtain ⟨el,he⟩:∃ e,P.underlying t=some (.slice e):=by
   rw [hs];intro s hh;rw [hh] at kx;rw [kx.inv_str.1] at e;cases e
  simp [Builtin.len_,run_underlying he,goInt,Sem.run_bind]
 ·rw [e]
  have he:P.underlying t=some .string:=by
   rcases ht with ht | ht
   ·exfalso
    have:=hs.1 ht
    generalize ov E (opd num x)=dx at kx h this
    rw [e] at kx
    cases dx<;>simp [lenD] at h<;>cases kx
   ·exact ht
  have:s.size=n:=by rw [←hn];simp
  simp [Builtin.len_,run_underlying he,goInt,Sem.run_bind,this]
end
end Lg
namespace Lg
open Go
set_option linter.unusedVariables false
set_option linter.unusedSimpArgs false
set_option linter.unusedSectionVars false
theorem addr_add (b o k:Nat):(⟨b,o,none⟩:Addr).add k=⟨b,o+k,none⟩:=by unfold Addr.add;split<;>simp_all
theorem addr_add_add (a:Addr) (i j:Nat):(a.add i).add j=a.add (i+j):=by
 unfold Addr.add
 by_cases hi:i=0
 ·subst hi;simp
 ·by_cases hj:j=0
  ·subst hj;simp
  ·rw [if_neg hi,if_neg hj,if_neg (by omega)];simp;omega
theorem addr_off (a:Addr) (i:Nat):(a.add i).off=a.off+i:=by unfold Addr.add;split<;>simp_all
theorem flat_cons (d:D) (ds:List D):flat (d :: ds)=d.cells++flat ds:=by simp [flat]
theorem flat_len {ds:List D} {sz:Nat} (hu:∀ d,d∈ds→d.cells.length=sz):(flat ds).length=ds.length*sz:=by
 induction ds with
 | nil=>simp [flat]
 | cons d ds ih =>
  rw [flat_cons,List.length_append,ih (fun x hx=>hu x (by simp [hx])),hu d (by simp),List.length_cons,Nat.add_mul];omega
theorem flat_drop {ds:List D} {sz:Nat} (hu:∀ d,d∈ds→d.cells.length=sz) (j:Nat):(flat ds).drop (j*sz)=flat (ds.drop j):=by
 induction ds generalizing j with
 | nil=>simp [flat]
 | cons d ds ih =>
  cases j with
  | zero=>simp
  | succ j =>
   rw [flat_cons,show (j+1)*sz=d.cells.length+j*sz by rw [hu d (by simp),Nat.add_mul];omega,List.drop_append,List.drop_of_length_le (by omega)]
   simp [ih (fun x hx=>hu x (by simp [hx]))]
theorem flat_take {ds:List D} {sz:Nat} (hu:∀ d,d∈ds→d.cells.length=sz) (j:Nat):(flat ds).take (j*sz)=flat (ds.take j):=by
 induction ds generalizing j with
 | nil=>simp [flat]
 | cons d ds ih =>
  cases j with
  | zero=>simp [flat]
  | succ j =>
   rw [flat_cons,show (j+1)*sz=d.cells.length+j*sz by rw [hu d (by simp),Nat.add_mul];omega,List.take_append,List.take_of_length_le (by omega)]
   simp [ih (fun x hx=>hu x (by simp [hx])),flat_cons]
theorem flat_get {ds:List D} {sz:Nat} (hu:∀ d,d∈ds→d.cells.length=sz) {j:Nat} {d:D} (h:ds[j]? = some d):((flat ds).drop (j*sz)).take sz=d.cells:=by
 rw [flat_drop hu]
 have hl:j<ds.length:=by
  rcases Nat.lt_or_ge j ds.length with h' | h'
  ·exact h'
  ·rw [List.getElem?_eq_none h'] at h;cases h
 have:ds.drop j=d :: ds.drop (j+1):=by
  rw [List.drop_eq_getElem_cons hl];congr 1
  rw [List.getElem?_eq_getElem hl] at h;injection h
 rw [this,flat_cons,List.take_append,List.take_of_length_le (by rw [hu d (List.mem_of_getElem? h)];omega),hu d (List.mem_of_getElem? h)]
 simp
theorem drop_get {α:Type} (l:List α) (i k:Nat):(l.drop i)[k]? = l[i+k]?:=by rw [List.getElem?_drop]
theorem take_get {α:Type} {l:List α} {n k:Nat} {v:α} (h:(l.take n)[k]? = some v):l[k]? = some v:=by
 rw [List.getElem?_take] at h
 split at h
 ·exact h
 ·cases h
section
variable {P:Program} {num:FuncId→Option Nat} {fid:Nat→FuncId} (hnum:∀ f g,num f=some g→fid g=f)
 {w:World} {A:Av} {ι:Io} {a:Act} {E:Env} {own:Nat→List Nat} (hl:∀ t,LV fid w A ι true (a.tmps.getD t undef) (lk E t) (own t)) {o:Oper} {d:D}
theorem LV.ep_drop {ad:Addr} {ds:List D} {vs:List Value} (h:LVs fid w A ι false vs ds []) (h1:∀ v,v∈vs→v.oneCell'=true)
  (hr:∀ (k:Nat) (v:Value),vs[k]? = some v→¬A ad.block (ad.off+k)∧w.cell? (ad.add k)=some v) (n:Nat):LV fid w A ι true (.pointer (some (ad.add n))) (.ep (ds.drop n)) []:=by
 refine .ep _ _ (vs.drop n) (h.drop n) (fun v hv=>h1 v (List.mem_of_mem_drop hv)) fun k v hk=>?_
 rw [drop_get] at hk
 have:=hr (n+k) v hk
 rw [add_block,addr_off,addr_add_add]
 exact ⟨by rw [Nat.add_assoc];exact this.1,this.2⟩
include hnum hl
theorem x_nilc {x:Operand} (ho:o.op = .nilCheck x) (hx:okOpd x=true) (h:(∃ id sz e off,ov E (opd num x) = .pt id sz e off)∨∃ ds,ov E (opd num x) = .ep ds):Pure1 P fid w A ι a o (ov E (opd num x)):=by
 have kx:=lv_opd hnum hl x hx
 rcases h with ⟨id,sz,e,off,h⟩ | ⟨ds,h⟩
 ·rw [h] at kx ⊢
  obtain ⟨b,hi,e1,e2,_⟩:=kx.inv_pt
  rw [e2] at kx
  refine ⟨_,?_,kx⟩
  simp [execOp,ho,e1]
 ·rw [h] at kx ⊢
  obtain ⟨ad,vs,e1,e2,_⟩:=kx.inv_ep
  rw [e2] at kx
  refine ⟨_,?_,kx⟩
  simp [execOp,ho,e1]
omit hnum hl in
theorem run_equal_ptr_nil {t e:TypeId} (ht:P.underlying t=some (.pointer e)) (p:Option Addr):(Op.equal t (.pointer p) (.pointer none)).run P w = .ok p.isNone w:=by
 have:∀ n,(Op.equalIn (n+1) t (.pointer p) (.pointer none)).run P w = .ok p.isNone w:=by
  intro n
  cases p<;>simp only [Op.equalIn,Sem.run_bind,run_underlying ht,Result.andThen_ok,Sem.run_pure,Option.isNone]
 exact this 9999
theorem x_eqn {neg:Bool} {t e t':TypeId} {x y:Operand} (ho:o.op = .binOp (if neg then .neq else .eql) t x y t') (hy:y = .const (.pointer none)) (ht:P.underlying t=some (.pointer e)) (hx:okOpd x=true)
  {b:Bool} (h:(ov E (opd num x) = .nl∧b=!neg)∨((∃ id sz e off,ov E (opd num x) = .pt id sz e off)∧b=neg)):Pure1 P fid w A ι a o (.sc (.bool b)):=by
 have kx:=lv_opd hnum hl x hx
 refine ⟨.bool b,?_, .sc _ rfl⟩
 simp only [execOp,ho]
 subst hy
 refine run_v ?_
 have hp:∃ p,a.eval x = .pointer p∧(p.isNone != neg)=b:=by
  rcases h with ⟨h,rfl⟩ | ⟨⟨id,sz,e,off,h⟩,rfl⟩
  ·rw [h] at kx;exact ⟨none,kx.inv_nl.1,by cases neg<;>rfl⟩
  ·rw [h] at kx;obtain ⟨b',hi,e1,_⟩:=kx.inv_pt;exact ⟨_,e1,by cases b<;>rfl⟩
 obtain ⟨p,hp,hb⟩:=hp
 rw [hp,Sem.run_bind,run_guard_plain _ t _ _ _ _ ⟨by simp,by simp⟩]
 simp only [Result.andThen_ok,Act.eval]
 cases neg
 ·simp only [Bool.false_eq_true,if_false,binOp,Sem.run_bind,run_equal_ptr_nil ht,Result.andThen_ok,Sem.run_pure]
  rw [←hb];cases p<;>rfl
 ·simp only [if_true,binOp,Sem.run_bind,run_equal_ptr_nil ht,Result.andThen_ok,Sem.run_pure]
  rw [←hb];cases p<;>rfl
theorem x_fad {t:TypeId} {x:Operand} {i n:Nat} {fs:Array Field} {f:Field} (ho:o.op = .fieldAddr t x i) (ht:P.underlying t=some (.struct fs)) (hf:fs[i]? = some f) (hs:sizeT P f.type=some n) (hn:n≠0) (hx:okOpd x=true)
  (h:(∃ ds,ov E (opd num x) = .ep ds∧d = .ep (ds.drop f.offset))∨∃ id sz e off,ov E (opd num x) = .pt id sz e off∧d = .pt id sz e (off+f.offset)):Pure1 P fid w A ι a o d:=by
 have kx:=lv_opd hnum hl x hx
 obtain ⟨ti,hti,hsz⟩:=Option.map_eq_some_iff.1 hs
 have key:∀ ad,a.eval x = .pointer (some ad)→(execOp a.eval o).run P w = .ok (.value (.pointer (some (ad.add f.offset)))) w:=by
  intro ad e
  simp only [execOp,ho]
  refine run_v ?_
  rw [e]
  simp [Instr.fieldAt,run_underlying ht,Sem.run_bind,hf,Instr.sureAddr,fieldPlace,Go.sizeOf,typeInfo,hti,hsz,hn]
 rcases h with ⟨ds,h,rfl⟩ | ⟨id,sz,e,off,h,rfl⟩
 ·rw [h] at kx
  obtain ⟨ad,vs,e1,e2,h2,h3,h4⟩:=kx.inv_ep
  exact ⟨_,key ad e1,LV.ep_drop h2.weak h3 h4 _⟩
 ·rw [h] at kx
  obtain ⟨b,hi,e1,e2,_⟩:=kx.inv_pt
  refine ⟨_,key _ e1,?_⟩
  rw [addr_add,Nat.add_assoc]
  exact .pt id sz e (off+f.offset) b hi
omit hnum hl in
theorem natOf_inv {r:Bool} {v:Value} {O:List Nat} {d:D} {j:Nat} (h:LV fid w A ι r v d O) (hj:natOf d=some j):∃ k,v = .int k (j:Int):=by
 unfold natOf at hj
 split at hj
 ·rename_i k n
  split at hj
  ·rename_i hn
   injection hj with hj
   refine ⟨k,?_⟩
   rw [h.inv_int.1];congr 1;omega
  ·cases hj
 ·cases hj
theorem x_ixs {t e:TypeId} {x i:Operand} {sz j:Nat} (ho:o.op = .indexAddr t x i) (ht:P.underlying t=some (.slice e)) (hs:sizeT P e=some sz) (hsz0:0<sz) (hx:okOpd x=true) (hi:okOpd i=true) (hj:natOf (ov E (opd num i))=some j)
  (h:(∃ ds d0,ov E (opd num x) = .sl sz ds∧ds[j]? = some d0∧d = .ep d0.cells)∨∃ id off len,ov E (opd num x) = .rf id sz off len∧j<len∧d = .pt id sz (off+j) 0):Pure1 P fid w A ι a o d:=by
 have kx:=lv_opd hnum hl x hx
 obtain ⟨k,hk⟩:=natOf_inv (lv_opd hnum hl i hi) hj
 obtain ⟨ti,hti,hsz⟩:=Option.map_eq_some_iff.1 hs
 have key:∀ ad n c,a.eval x = .slice (some ad) n c→j<n→(execOp a.eval o).run P w = .ok (.value (.pointer (some (ad.add (j*sz))))) w:=by
  intro ad n c e1 hlt
  simp only [execOp,ho]
  refine run_v ?_
  rw [e1,hk]
  have:(j:Int)<(n:Int):=by omega
  simp [Instr.indexAt,run_underlying ht,Sem.run_bind,asIntOf,Go.sizeOf,typeInfo,hti,hsz,this]
  intro hge;omega
 rcases h with ⟨ds,d0,h,hd,rfl⟩ | ⟨id,off,len,h,hlt,rfl⟩
 ·rw [h] at kx
  obtain ⟨ad,cap,vs,e1,e2,hc,hu,h2,h3,h4⟩:=kx.inv_sl
  have hlt:j<ds.length:=by
   rcases Nat.lt_or_ge j ds.length with h' | h'
   ·exact h'
   ·rw [List.getElem?_eq_none h'] at hd;cases hd
  have hg:=flat_get hu hd
  have hm:LVs fid w A ι false ((vs.drop (j*sz)).take sz) d0.cells []:=by
   have:=(h2.drop (j*sz)).take sz
   rw [hg] at this
   exact this.weak
  have hlen:vs.length=ds.length*sz:=by rw [h2.length_eq,flat_len hu]
  have hin:j*sz<vs.length:=by rw [hlen];exact (Nat.mul_lt_mul_right hsz0).2 hlt
  obtain ⟨ad',rfl,_,_⟩:=h4 (j*sz) _ (List.getElem?_eq_getElem hin)
  refine ⟨_,key ad' _ _ e1 hlt, .ep _ _ _ hm (fun v hv=>h3 v (List.mem_of_mem_drop (List.mem_of_mem_take hv))) fun k v hk=>?_⟩
  have hk':=take_get hk
  rw [drop_get] at hk'
  obtain ⟨ad2,e3,h5,h6⟩:=h4 _ v hk'
  injection e3 with e3
  subst e3
  rw [add_block,addr_off,addr_add_add]
  exact ⟨by rw [Nat.add_assoc];exact h5,h6⟩
 ·rw [h] at kx
  obtain ⟨ad,cap,q,e1,e2,_,hi,h0,h1⟩:=kx.inv_rf
  cases q with
  | none=>have:=h0 rfl;omega
  | some b =>
   obtain ⟨h2,h3,_⟩:=h1 b rfl
   rcases h2 with rfl | h2
   ·refine ⟨_,key _ _ _ e1 hlt,?_⟩
    rw [addr_add,←Nat.add_mul]
    exact .pt id sz (off+j) 0 b hi
   ·omega
theorem x_ixa {t e:TypeId} {x i:Operand} {len sz j:Nat} (ho:o.op = .indexAddr t x i) (ht:P.underlying t=some (.array len e)) (hs:sizeT P e=some sz) (hx:okOpd x=true) (hi:okOpd i=true) (hj:natOf (ov E (opd num i))=some j) (hlt:j<len)
  (h:(∃ ds,ov E (opd num x) = .ep ds∧d = .ep (ds.drop (j*sz)))∨∃ id s e off,ov E (opd num x) = .pt id s e off∧d = .pt id s e (off+j*sz)):Pure1 P fid w A ι a o d:=by
 have kx:=lv_opd hnum hl x hx
 obtain ⟨k,hk⟩:=natOf_inv (lv_opd hnum hl i hi) hj
 obtain ⟨ti,hti,hsz⟩:=Option.map_eq_some_iff.1 hs
 have key:∀ ad,a.eval x = .pointer (some ad)→(execOp a.eval o).run P w = .ok (.value (.pointer (some (ad.add (j*sz))))) w:=by
  intro ad e1
  simp only [execOp,ho]
  refine run_v ?_
  rw [e1,hk]
  have:(j:Int)<(len:Int):=by omega
  simp [Instr.indexAt,run_underlying ht,Sem.run_bind,asIntOf,Go.sizeOf,typeInfo,hti,hsz,this,Instr.sureAddr]
  intro hge;omega
 rcases h with ⟨ds,h,rfl⟩ | ⟨id,s,e',off,h,rfl⟩
 ·rw [h] at kx
  obtain ⟨ad,vs,e1,e2,h2,h3,h4⟩:=kx.inv_ep
  exact ⟨_,key ad e1,LV.ep_drop h2.weak h3 h4 _⟩
 ·rw [h] at kx
  obtain ⟨b,hi,e1,e2,_⟩:=kx.inv_pt
  refine ⟨_,key _ e1,?_⟩
  rw [addr_add,Nat.add_assoc]
  exact .pt id s e' (off+j*sz) b hi
omit hnum hl in
theorem bnds_run {lo hi:Option Operand} {n c l h:Nat} {isS:Bool} (hn:n≤c) (hlv:∀ x,LV fid w A ι true (a.eval x) (ov E (opd num x)) (ownX own x)∨okOpd x=false)
  (ho:∀ x,lo=some x→okOpd x=true) (hh:∀ x,hi=some x→okOpd x=true)
  (hb:bnds n (lo.map fun x=>ov E (opd num x)) (hi.map fun x=>ov E (opd num x))=some (l,h)) :
  (Instr.sliceBounds isS n c (lo.map a.eval) (hi.map a.eval) none).run P w = .ok (l,h,c) w∧l≤h∧h≤n:=by
 have one:∀ x j,okOpd x=true→natOf (ov E (opd num x))=some j→∃ k,a.eval x = .int k (j:Int):=by
  intro x j h1 h2
  rcases hlv x with h3 | h3
  ·exact natOf_inv h3 h2
  ·rw [h1] at h3;cases h3
 unfold bnds at hb
 split at hb
 ·rename_i h' l' e1 e2
  split at hb
  ·rename_i hle
   simp only [Option.some.injEq,Prod.mk.injEq] at hb
   obtain ⟨rfl,rfl⟩:=hb
   refine ⟨?_,hle.1,hle.2⟩
   have hH:(match (hi.map a.eval:Option Value) with | some v=>Instr.sliceBound v c (if isS then .sliceAcap else .sliceAlen) | none=>pure n:Sem Nat).run P w = .ok h' w:=by
    cases hi with
    | none=>simp at e1;subst e1;rfl
    | some x =>
     simp at e1
     obtain ⟨k,hk⟩:=one x h' (hh x rfl) e1
     have:(h':Int)≤(c:Int):=by omega
     simp [hk,Instr.sliceBound,asIntOf,Sem.run_bind,this]
   have hL:(match (lo.map a.eval:Option Value) with | some v=>Instr.sliceBound v h' .sliceB | none=>pure 0:Sem Nat).run P w = .ok l' w:=by
    cases lo with
    | none=>simp at e2;subst e2;rfl
    | some x =>
     simp at e2
     obtain ⟨k,hk⟩:=one x l' (ho x rfl) e2
     have:(l':Int)≤(h':Int):=by omega
     simp [hk,Instr.sliceBound,asIntOf,Sem.run_bind,this]
   unfold Instr.sliceBounds
   cases hi with
   | none =>
    cases lo with
    | none=>simp at hH hL ⊢;simp [Sem.run_bind,hH,hL]
    | some y=>simp at hH hL ⊢;simp [Sem.run_bind,hH,hL]
   | some x =>
    cases lo with
    | none=>simp at hH hL ⊢;simp [Sem.run_bind,hH,hL]
    | some y=>simp at hH hL ⊢;simp [Sem.run_bind,hH,hL]
  ·cases hb
 ·cases hb
omit hnum hl in
theorem extract_str (s:ByteArray) (l h:Nat):s.extract l h=⟨⟨(s.data.toList.drop l).take (h-l)⟩⟩:=by
 apply ByteArray.ext
 apply Array.ext'
 simp [List.extract_eq_take_drop]
theorem x_sls {t:TypeId} {x:Operand} {lo hi:Option Operand} {str:ByteArray} {l h:Nat} (ho:o.op = .slice t x lo hi none) (ht:P.underlying t=some .string) (hx:okOpd x=true) (hlo:∀ x,lo=some x→okOpd x=true) (hhi:∀ x,hi=some x→okOpd x=true)
  (h1:ov E (opd num x) = .sc (.string str)) (hb:bnds str.data.toList.length (lo.map fun x=>ov E (opd num x)) (hi.map fun x=>ov E (opd num x))=some (l,h)) :
  Pure1 P fid w A ι a o (.sc (.string ⟨⟨(str.data.toList.drop l).take (h-l)⟩⟩)):=by
 have kx:=lv_opd hnum hl x hx
 rw [h1] at kx
 have hlv:∀ x,LV fid w A ι true (a.eval x) (ov E (opd num x)) (ownX own x)∨okOpd x=false:=by
  intro x;by_cases h:okOpd x=true
  ·exact .inl (lv_opd hnum hl x h)
  ·exact .inr (by simpa using h)
 have hsz:str.data.toList.length=str.size:=by simp
 rw [hsz] at hb
 have hr:=bnds_run (P:=P) (isS:=false) (Nat.le_refl str.size) hlv hlo hhi hb
 refine ⟨_,?_, .sc _ rfl⟩
 simp only [execOp,ho]
 refine run_v ?_
 rw [kx.inv_str.1]
 simp only [Instr.sliceAt,Sem.run_bind,run_underlying ht,Result.andThen_ok,Instr.slice,Option.map_none,Option.isSome_none,Bool.false_eq_true,if_false,Sem.run_pure,hr.1,extract_str]
theorem x_slz {t e:TypeId} {x:Operand} {lo hi mx:Option Operand} {n:Nat} {sz:Nat} (ho:o.op = .slice t x lo hi mx) (hz:(lo.isNone || isZero lo)=true∧isZero hi=true∧isZero mx=true) (ht:P.underlying t=some (.slice e)) (hs:sizeT P e=some sz) (hx:okOpd x=true)
  (h1:isStr (ov E (opd num x))=false) (h2:lenD (ov E (opd num x))=some n):Pure1 P fid w A ι a o .sn:=by
 have kx:=lv_opd hnum hl x hx
 obtain ⟨ti,hti,hsz⟩:=Option.map_eq_some_iff.1 hs
 have z:∀ y:Option Operand,isZero y=true→∃ k,y=some (.const (.int k 0)):=by
  intro y hy
  unfold isZero at hy
  split at hy
  ·exact ⟨_,rfl⟩
  ·cases hy
 have hlo:lo=none∨∃ k,lo=some (.const (.int k 0)):=by
  cases lo with
  | none=>exact .inl rfl
  | some y=>exact .inr (z (some y) (by simpa using hz.1))
 obtain ⟨k2,rfl⟩:=z hi hz.2.1
 obtain ⟨k3,rfl⟩:=z mx hz.2.2
 rcases kx.inv_len h2 with ⟨ad,cap,e1⟩ | ⟨s,e1,_⟩
 ·refine ⟨.slice ad 0 0,?_, .sn ad⟩
  simp only [execOp,ho]
  refine run_v ?_
  rw [e1]
  rcases hlo with rfl | ⟨k1,rfl⟩<;>simp [Instr.sliceAt,Instr.slice,Instr.sliceBounds,Instr.sliceBound,Sem.run_bind,run_underlying ht,Act.eval,asIntOf,Go.sizeOf,typeInfo,hti]
 ·exfalso
  generalize ov E (opd num x)=dx at kx h1 h2
  generalize ownX own x=Ox at kx
  rw [e1] at kx
  cases dx<;>simp [lenD] at h2<;>cases kx
  simp [isStr] at h1
theorem x_slc {t e:TypeId} {x:Operand} {lo hi:Option Operand} {sz:Nat} (ho:o.op = .slice t x lo hi none) (ht:P.underlying t=some (.slice e)) (hs:sizeT P e=some sz) (hsz0:0<sz) (hx:okOpd x=true)
  (hlo:∀ x,lo=some x→okOpd x=true) (hhi:∀ x,hi=some x→okOpd x=true)
  (h:slcD sz (lo.map fun x=>ov E (opd num x)) (hi.map fun x=>ov E (opd num x)) (ov E (opd num x))=some d):Pure1 P fid w A ι a o d:=by
 have kx:=lv_opd hnum hl x hx
 obtain ⟨ti,hti,hsz⟩:=Option.map_eq_some_iff.1 hs
 have hlv:∀ x,LV fid w A ι true (a.eval x) (ov E (opd num x)) (ownX own x)∨okOpd x=false:=by
  intro x;by_cases h:okOpd x=true
  ·exact .inl (lv_opd hnum hl x h)
  ·exact .inr (by simpa using h)
 have key:∀ ad n c l h,a.eval x = .slice ad n c→n≤c→bnds n (lo.map fun x=>ov E (opd num x)) (hi.map fun x=>ov E (opd num x))=some (l,h) →
   (execOp a.eval o).run P w = .ok (.value (.slice (if c=l then ad else ad.map (·.add (l*sz))) (h-l) (c-l))) w∧l≤h∧h≤n:=by
  intro ad n c l h e1 hle hb
  have hr:=bnds_run (P:=P) (isS:=true) hle hlv hlo hhi hb
  refine ⟨?_,hr.2⟩
  simp only [execOp,ho]
  refine run_v ?_
  rw [e1]
  simp only [Instr.sliceAt,Sem.run_bind,run_underlying ht,Result.andThen_ok,Instr.slice,Option.map_none,hr.1]
  simp [Go.sizeOf,typeInfo,hti,hsz,Sem.run_bind]
 unfold slcD at h
 split at h
 ·rename_i sz' ds hd
  split at h
  ·rename_i es;subst es
   obtain ⟨p,hp,rfl⟩:=Option.map_eq_some_iff.1 h
   obtain ⟨l,hh⟩:=p
   rw [hd] at kx
   obtain ⟨ad,cap,vs,e1,e2,hc,hu,h2,h3,h4⟩:=kx.inv_sl
   obtain ⟨hr,hl1,hl2⟩:=key ad ds.length cap l hh e1 hc hp
   refine ⟨_,hr,?_⟩
   have hlen:vs.length=ds.length*sz':=by rw [h2.length_eq,flat_len hu]
   have hu':∀ d,d∈(ds.drop l).take (hh-l)→d.cells.length=sz':=fun d hd=>hu d (List.mem_of_mem_drop (List.mem_of_mem_take hd))
   have hm:LVs fid w A ι false ((vs.drop (l*sz')).take ((hh-l)*sz')) (flat ((ds.drop l).take (hh-l))) []:=by
    have:=(h2.drop (l*sz')).take ((hh-l)*sz')
    rw [flat_drop hu,flat_take (fun d hd=>hu d (List.mem_of_mem_drop hd))] at this
    exact this.weak
   refine .sl _ _ _ sz' _ _ ?_ (by omega) hu' hm (fun v hv=>h3 v (List.mem_of_mem_drop (List.mem_of_mem_take hv))) ?_
   ·rw [List.length_take,List.length_drop];omega
   ·intro k v hk
    have hk':=take_get hk
    rw [drop_get] at hk'
    obtain ⟨ad2,e3,h5,h6⟩:=h4 _ v hk'
    subst e3
    split
    ·exfalso
     rename_i hcl
     have hkl:k<(hh-l)*sz':=by
      rw [List.getElem?_take] at hk
      split at hk
      ·assumption
      ·cases hk
     have:hh-l=0:=by omega
     rw [this] at hkl;omega
    ·refine ⟨ad2.add (l*sz'),rfl,?_⟩
     rw [add_block,addr_off,addr_add_add]
     exact ⟨by rw [Nat.add_assoc];exact h5,h6⟩
  ·cases h
 ·rename_i hd
  obtain ⟨p,hp,rfl⟩:=Option.map_eq_some_iff.1 h
  obtain ⟨l,hh⟩:=p
  rw [hd] at kx
  obtain ⟨ad,e1,e2⟩:=kx.inv_sn
  obtain ⟨hr,hl1,hl2⟩:=key ad 0 0 l hh e1 (Nat.le_refl _) hp
  refine ⟨_,hr,?_⟩
  have h0:hh=0:=by omega
  have h1:l=0:=by omega
  subst h0;subst h1
  exact .sn _
 ·rename_i id sz' off len hd
  split at h
  ·rename_i es;subst es
   obtain ⟨p,hp,rfl⟩:=Option.map_eq_some_iff.1 h
   obtain ⟨l,hh⟩:=p
   rw [hd] at kx
   obtain ⟨ad,cap,q,e1,e2,_,hi',h0,h1⟩:=kx.inv_rf
   have hlc:len≤cap:=by
    cases q with
    | none=>have:=h0 rfl;omega
    | some b=>exact (h1 b rfl).2.1
   obtain ⟨hr,hl1,hl2⟩:=key ad len cap l hh e1 hlc hp
   refine ⟨_,hr, .rf _ id sz' (off+l) (hh-l) (cap-l) q hi' ?_ ?_⟩
   ·intro e;have:=h0 e;omega
   ·intro b e
    obtain ⟨h2,h3,cs,T,fr,hb,hs'⟩:=h1 b e
    refine ⟨?_,by omega,cs,T,fr,hb,?_⟩
    ·by_cases hcl:cap=l
     ·exact .inr (by omega)
     ·rw [if_neg hcl]
      rcases h2 with rfl | h2
      ·left;simp only [Option.map_some];rw [addr_add,Nat.add_mul]
      ·omega
    ·rw [show off+l+(cap-l)=off+cap by omega];exact hs'
  ·cases h
 ·cases h
omit hnum hl in
theorem run_isAgg {t:TypeId} {ag:Bool} (h:aggT P t=some ag):(isAgg t).run P w = .ok ag w:=by
 obtain ⟨d,hd,rfl⟩:=Option.map_eq_some_iff.1 h
 simp only [isAgg,Sem.run_bind,run_underlying hd,Result.andThen_ok]
 cases d<;>rfl
omit hnum hl in
theorem run_sizeT {t:TypeId} {n:Nat} (h:sizeT P t=some n):(Go.sizeOf t).run P w = .ok n w:=by
 obtain ⟨ti,hti,hsz⟩:=Option.map_eq_some_iff.1 h
 simp [Go.sizeOf,typeInfo,hti,hsz,Sem.run_bind]
omit hnum hl in
theorem run_part {t:TypeId} {ag:Bool} {n off:Nat} {vs:List Value} {ds:List D} {r:Bool} (h1:aggT P t=some ag) (h2:sizeT P t=some n) (hv:LVs fid w A ι r vs ds []) (h:part ag n (ds.drop off)=some d) :
  ∃ v,(Go.part t ⟨vs⟩ off).run P w = .ok v w∧LV fid w A ι r v d []:=by
 unfold Go.part
 simp only [Sem.run_bind,run_isAgg h1,Result.andThen_ok]
 unfold part at h
 cases ag with
 | true =>
  simp only [if_true] at h ⊢
  split at h
  ·injection h with h;subst h
   refine ⟨.agg ⟨(vs.drop off).take n⟩,?_, .agg _ _ [] ((hv.drop off).take n)⟩
   simp only [Sem.run_bind,run_sizeT h2,Result.andThen_ok,Sem.run_pure]
   congr 2
   apply Array.ext'
   simp [List.extract_eq_take_drop]
  ·cases h
 | false =>
  simp only [Bool.false_eq_true,if_false] at h ⊢
  split at h
  ·rename_i c cs hc
   injection h with h;subst h
   have:ds[off]? = some c:=by
    have:=drop_get ds off 0
    rw [hc] at this;simpa using this.symm
   obtain ⟨v,hv1,hv2⟩:=hv.get this
   refine ⟨v,?_,hv2⟩
   have:(⟨vs⟩:Array Value)[off]? = some v:=by simpa using hv1
   rw [this];rfl
  ·cases h
theorem x_fld {t:TypeId} {x:Operand} {i n:Nat} {ag:Bool} {fs:Array Field} {f:Field} {ds:List D} (ho:o.op = .field t x i) (ht:P.underlying t=some (.struct fs)) (hf:fs[i]? = some f) (hs:sizeT P f.type=some n) (ha:aggT P f.type=some ag)
  (hx:okOpd x=true) (h:ov E (opd num x) = .agg ds) (hn:noTrees ds=true) (hp:part ag n (ds.drop f.offset)=some d):Pure1 P fid w A ι a o d:=by
 have kx:=lv_opd hnum hl x hx
 rw [h] at kx
 obtain ⟨vs,e1,hv⟩:=kx.inv_agg
 rw [hv.noTree hn] at hv
 obtain ⟨v,hr,hlv⟩:=run_part ha hs hv hp
 refine ⟨v,?_,hlv⟩
 simp only [execOp,ho]
 refine run_v ?_
 rw [e1]
 simp only [Instr.field,Sem.run_bind,run_underlying ht,Result.andThen_ok,hf,asAgg,Sem.run_pure,hr]
theorem x_ixg {t e:TypeId} {x i:Operand} {len n j:Nat} {ag:Bool} {ds:List D} (ho:o.op = .index t x i) (ht:P.underlying t=some (.array len e)) (hs:sizeT P e=some n) (ha:aggT P e=some ag)
  (hx:okOpd x=true) (hi:okOpd i=true) (hj:natOf (ov E (opd num i))=some j) (hlt:j<len) (h:ov E (opd num x) = .agg ds) (hn:noTrees ds=true) (hp:part ag n (ds.drop (j*n))=some d):Pure1 P fid w A ι a o d:=by
 have kx:=lv_opd hnum hl x hx
 obtain ⟨k,hk⟩:=natOf_inv (lv_opd hnum hl i hi) hj
 rw [h] at kx
 obtain ⟨vs,e1,hv⟩:=kx.inv_agg
 rw [hv.noTree hn] at hv
 obtain ⟨v,hr,hlv⟩:=run_part ha hs hv hp
 refine ⟨v,?_,hlv⟩
 simp only [execOp,ho]
 refine run_v ?_
 rw [e1,hk]
 have h0:(0:Int)≤(j:Int)∧(j:Int)<(len:Int):=by omega
 simp only [Instr.index,asIntOf,Sem.run_bind,Sem.run_pure,Result.andThen_ok,run_underlying ht,if_pos h0,Int.toNat_natCast,run_sizeT hs,hr]
theorem x_ixt {t:TypeId} {x i:Operand} {j:Nat} {s:ByteArray} {b:UInt8} (ho:o.op = .index t x i) (ht:P.underlying t=some .string) (hx:okOpd x=true) (hi:okOpd i=true) (hj:natOf (ov E (opd num i))=some j)
  (h:ov E (opd num x) = .sc (.string s)) (hb:s.data.toList[j]? = some b):Pure1 P fid w A ι a o (.sc (.int .u8 b.toNat)):=by
 have kx:=lv_opd hnum hl x hx
 obtain ⟨k,hk⟩:=natOf_inv (lv_opd hnum hl i hi) hj
 rw [h] at kx
 refine ⟨_,?_, .sc _ rfl⟩
 simp only [execOp,ho]
 refine run_v ?_
 rw [kx.inv_str.1,hk]
 have hg:s[j]? = some b:=by
  have hlt:j<s.size:=by
   rcases Nat.lt_or_ge j s.data.toList.length with h' | h'
   ·simpa using h'
   ·rw [List.getElem?_eq_none h'] at hb;cases hb
  have:s.data.toList[j]? = some (s[j]'hlt):=by
   rw [List.getElem?_eq_getElem (by simpa using hlt)];simp;rfl
  rw [this] at hb
  rw [getElem?_pos s j hlt];exact hb
 simp only [Instr.index,asIntOf,Sem.run_bind,Sem.run_pure,Result.andThen_ok,run_underlying ht]
 have h0:(0:Int)≤(j:Int):=by omega
 simp only [if_pos h0,Int.toNat_natCast,hg,Sem.run_pure]
theorem x_opds {xs:List Operand} (h:∀ x,x∈xs→okOpd x=true) (hn:noTrees (xs.map fun x=>ov E (opd num x))=true):LVs fid w A ι true (xs.map a.eval) (xs.map fun x=>ov E (opd num x)) []:=by
 induction xs with
 | nil=>exact .nil
 | cons x xs ih =>
  simp only [List.map_cons,noTrees,Bool.and_eq_true] at hn
  have kx:=lv_opd hnum hl x (h x (by simp))
  rw [kx.noTree hn.1] at kx
  exact LVs.cons' kx (ih (fun y hy=>h y (by simp [hy])) hn.2)
theorem x_mkf {f g:Nat} {caps:Array Operand} (ho:o.op = .makeFunc (.func f) #[] caps) (hg:num f=some g) (hc:∀ x,x∈caps.toList→okOpd x=true) (hn:noTrees (caps.toList.map fun x=>ov E (opd num x))=true) :
  Pure1 P fid w A ι a o (.fn g (caps.toList.map fun x=>ov E (opd num x))):=by
 have hv:=x_opds hnum hl hc hn
 have:=hnum f g hg
 subst this
 refine ⟨_,?_, .fn g _ _ [] hv⟩
 simp only [execOp,ho]
 refine run_v ?_
 have hm:caps.map a.eval=⟨caps.toList.map a.eval⟩:=by apply Array.ext';simp
 simp [Instr.makeFunc,hm]
theorem x_mx {ts:Array TypeId} {x y:Operand} (ho:o.op = .call {callee:= .builtin .max,args:=#[x,y],argTypes:=ts}) (hx:okOpd x=true) (hy:okOpd y=true) (h:mxD [ov E (opd num x),ov E (opd num y)]=some d):Pure1 P fid w A ι a o d:=by
 have kx:=lv_opd hnum hl x hx
 have ky:=lv_opd hnum hl y hy
 generalize ov E (opd num x)=dx at kx h
 generalize ov E (opd num y)=dy at ky h
 unfold mxD at h
 split at h
 ·rename_i k m k' n heq
  simp only [List.cons.injEq,and_true] at heq
  obtain ⟨rfl,rfl⟩:=heq
  injection h with h;subst h
  refine ⟨_,?_, .sc _ rfl⟩
  simp only [execOp,ho,resolve,invoke,builtin,Sem.run_bind,Sem.run_pure,Result.andThen_ok,List.map_toArray,List.map_cons,List.map_nil,kx.inv_int.1,ky.inv_int.1]
  simp [Builtin.max_,Builtin.max2,Sem.run_bind,mxI]
 ·cases h
theorem x_mn {ts:Array TypeId} {x y:Operand} (ho:o.op = .call {callee:= .builtin .min,args:=#[x,y],argTypes:=ts}) (hx:okOpd x=true) (hy:okOpd y=true) (h:mnD [ov E (opd num x),ov E (opd num y)]=some d):Pure1 P fid w A ι a o d:=by
 have kx:=lv_opd hnum hl x hx
 have ky:=lv_opd hnum hl y hy
 generalize ov E (opd num x)=dx at kx h
 generalize ov E (opd num y)=dy at ky h
 unfold mnD at h
 split at h
 ·rename_i k m k' n heq
  simp only [List.cons.injEq,and_true] at heq
  obtain ⟨rfl,rfl⟩:=heq
  injection h with h;subst h
  refine ⟨_,?_, .sc _ rfl⟩
  simp only [execOp,ho,resolve,invoke,builtin,Sem.run_bind,Sem.run_pure,Result.andThen_ok,List.map_toArray,List.map_cons,List.map_nil,kx.inv_int.1,ky.inv_int.1]
  simp [Builtin.min_,Builtin.min2,Sem.run_bind,mnI]
 ·cases h
end
end Lg
namespace Lg
open Go
set_option linter.unusedVariables false
set_option linter.unusedSimpArgs false
set_option linter.unusedSectionVars false
theorem foldl_splice (off:Nat):∀ (us:List Value) (k:Nat) (cs:Array Value),off+k+us.length≤cs.size →
  ((us.zipIdx k).foldl (fun cs p=>cs.setIfInBounds (off+p.2) p.1) cs)=⟨cs.toList.take (off+k)++us++cs.toList.drop (off+k+us.length)⟩
 | [],k,cs,h=>by simp
 | u :: us,k,cs,h=>by
  simp only [List.zipIdx_cons,List.foldl_cons]
  rw [foldl_splice off us (k+1) _ (by simp at h ⊢;omega)]
  congr 1
  have hk:off+k<cs.toList.length:=by simp at h ⊢;omega
  have h2:((cs.setIfInBounds (off+k) u).toList).take (off+(k+1))=cs.toList.take (off+k)++[u]:=by
   rw [Array.toList_setIfInBounds,show off+(k+1)=off+k+1 by omega,List.take_set,List.take_succ_eq_append_getElem hk]
   rw [List.set_append_right _ _ (by simp;omega)]
   have:off+k-(cs.toList.take (off+k)).length=0:=by simp;omega
   rw [this];rfl
  have h3:((cs.setIfInBounds (off+k) u).toList).drop (off+(k+1)+us.length)=cs.toList.drop (off+k+(u :: us).length):=by
   rw [Array.toList_setIfInBounds,List.drop_set_of_lt (by omega)]
   congr 1;simp;omega
  rw [h2,h3];simp
section
variable {fid:Nat→FuncId} {w:World} {A:Av} {ι:Io} {r:Bool}
theorem LVs.splice {vs us:List Value} {ds es:List D} {off:Nat} (h:LVs fid w A ι r vs ds []) (k:LVs fid w A ι r us es []) :
  LVs fid w A ι r (vs.take off++us++vs.drop (off+us.length)) (ds.take off++(es++ds.drop (off+es.length))) []:=by
 rw [List.append_assoc,k.length_eq]
 exact (h.take off).append (k.append (h.drop _))
theorem putCells_some {ds es ds':List D} {off:Nat} (h:putCells ds off es=some ds'):off+es.length≤ds.length∧ds'=ds.take off++(es++ds.drop (off+es.length)):=by
 unfold putCells at h
 split at h
 ·rename_i hl;injection h with h;exact ⟨hl,h.symm⟩
 ·cases h
theorem fill_one {vs:List Value} {ds ds':List D} {v:Value} {d:D} {off:Nat} (h:LVs fid w A ι r vs ds []) (k:LV fid w A ι r v d []) (hne:d≠ .un) (hp:putCells ds off d.cells=some ds') :
  off+v.cells.size≤vs.length∧LVs fid w A ι r (v.cells.zipIdx.foldl (fun (cs:Array Value) (p:Value×Nat)=>cs.setIfInBounds (off+p.2) p.1) (⟨vs⟩:Array Value)).toList ds' [] ∧
   (v.cells.zipIdx.foldl (fun (cs:Array Value) (p:Value×Nat)=>cs.setIfInBounds (off+p.2) p.1) (⟨vs⟩:Array Value)).size=vs.length:=by
 obtain ⟨hl,rfl⟩:=putCells_some hp
 have kc:=k.cells hne
 have e1:=kc.length_eq
 have e2:=h.length_eq
 have hsz:v.cells.size=d.cells.length:=by rw [←e1];simp
 have hle:off+v.cells.size≤vs.length:=by omega
 have hf:v.cells.zipIdx.foldl (fun (cs:Array Value) (p:Value×Nat)=>cs.setIfInBounds (off+p.2) p.1) (⟨vs⟩:Array Value)=⟨vs.take off++v.cells.toList++vs.drop (off+v.cells.toList.length)⟩:=by
  rw [←Array.foldl_toList,Array.toList_zipIdx]
  exact foldl_splice off v.cells.toList 0 ⟨vs⟩ (by simp;omega)
 rw [hf]
 refine ⟨hle,h.splice kc,?_⟩
 simp;omega
end
section
variable {P:Program} {num:FuncId→Option Nat} {fid:Nat→FuncId} (hnum:∀ f g,num f=some g→fid g=f)
 {w:World} {A:Av} {ι:Io} {a:Act} {E:Env} {own:Nat→List Nat} (hl:∀ t,LV fid w A ι true (a.tmps.getD t undef) (lk E t) (own t)) {o:Oper} {d:D}
include hnum hl
theorem fill_lv (pl:Nat→Option (Nat×Nat)):∀ (ps:List (Nat×Operand)) (qs:List (Nat×Nat×SOpd)) (vs:List Value) (ds ds':List D),
  (∀ p,p∈ps→okOpd p.2=true)→List.length qs=ps.length→(∀ (k:Nat) (p:Nat×Operand) (q:Nat×Nat×SOpd),ps[k]? = some p→qs[k]? = some q→pl p.1=some (q.1,q.2.1)∧q.2.2=opd num p.2)→noTrees (qs.map fun q=>ov E q.2.2)=true →
  LVs fid w A ι true vs ds []→buildD ds (qs.map fun q=>(q.1,q.2.1,ov E q.2.2))=some ds' →
  ∃ cs:Array Value,Instr.fill pl ⟨vs⟩ (ps.map fun p=>(p.1,a.eval p.2))=some cs∧LVs fid w A ι true cs.toList ds' []
 | [],[],vs,ds,ds',_,_,_,_,hv,h=>by
  simp [buildD] at h;subst h
  exact ⟨⟨vs⟩,rfl,hv⟩
 | [],q :: qs,vs,ds,ds',_,hlen,_,_,hv,h=>by simp at hlen
 | p :: ps,[],vs,ds,ds',_,hlen,_,_,hv,h=>by simp at hlen
 | p :: ps,q :: qs,vs,ds,ds',hok,hlen,hpl,hn,hv,h=>by
  obtain ⟨h1,h2⟩:=hpl 0 p q rfl rfl
  simp only [List.map_cons,noTrees,Bool.and_eq_true] at hn
  have kx:=lv_opd hnum hl p.2 (hok p (by simp))
  rw [←h2] at kx
  rw [kx.noTree hn.1] at kx
  have hne:=noTree_ne hn.1
  simp only [List.map_cons,buildD] at h
  split at h
  ·rename_i hsz
   obtain ⟨ds1,hp,hb⟩:=Option.bind_eq_some_iff.1 h
   obtain ⟨g1,g2,g3⟩:=fill_one hv kx hne hp
   have hcs:(a.eval p.2).cells.size=q.2.1:=by rw [←hsz];have:=(kx.cells hne).length_eq;simpa using this
   obtain ⟨cs,hf,hcsv⟩:=fill_lv pl ps qs _ ds1 ds' (fun x hx=>hok x (by simp [hx])) (by simpa using hlen) (fun k p' q' hp hq=>hpl (k+1) p' q' (by simpa using hp) (by simpa using hq)) hn.2 g2 hb
   refine ⟨cs,?_,hcsv⟩
   simp only [List.map_cons,Instr.fill,h1]
   have hif:((a.eval p.2).cells.size≠q.2.1 || decide (q.1+(a.eval p.2).cells.size>(⟨vs⟩:Array Value).size))=false:=by
    simp [hcs];omega
   split
   ·rename_i hc
    exfalso
    simp at hc
    rcases hc with hc | hc
    ·exact hc hcs
    ·omega
   ·exact hf
  ·cases h
omit hnum hl in
theorem partsT_spec {pl:List (Nat×Nat)}:∀ {ps:List (Nat×Operand)} {qs:List (Nat×Nat×SOpd)},partsT num pl ps=some qs→qs.length=ps.length∧∀ (k:Nat) (p:Nat×Operand) (q:Nat×Nat×SOpd),ps[k]? = some p→qs[k]? = some q→pl.toArray[p.1]? = some (q.1,q.2.1)∧q.2.2=opd num p.2
 | [],qs,h=>by simp [partsT] at h;subst h;exact ⟨rfl,by intro k p q hp;simp at hp⟩
 | p :: ps,qs,h=>by
  simp only [partsT] at h
  obtain ⟨q,hq,h⟩:=Option.bind_eq_some_iff.1 h
  obtain ⟨l,hl,rfl⟩:=Option.map_eq_some_iff.1 h
  obtain ⟨h1,h2⟩:=partsT_spec hl
  refine ⟨by simp [h1],fun k p' q' hp hq'=>?_⟩
  cases k with
  | zero=>simp at hp hq';subst hp;subst hq';exact ⟨by simpa using hq,rfl⟩
  | succ k=>exact h2 k p' q' (by simpa using hp) (by simpa using hq')
omit hl in
theorem lv_zero {t:TypeId} {z:List D} (h:zeroT P t=some z) {r:Bool}:∃ (ti:TypeInfo) (zv:Value),P.info? t=some ti∧ti.zero=some zv∧LVs fid w A ι r zv.cells.toList z []∧∀ v,v∈zv.cells.toList→v.oneCell'=true:=by
 unfold zeroT at h
 obtain ⟨zv,hz,h⟩:=Option.bind_eq_some_iff.1 h
 obtain ⟨ti,hti,hzz⟩:=Option.bind_eq_some_iff.1 hz
 split at h
 ·rename_i hh
  injection h with h
  subst h
  rw [List.all_eq_true] at hh
  refine ⟨ti,zv,hti,hzz,lv_leaves hnum _ ?_,fun v hv=>?_⟩
  ·rw [List.all_eq_true];intro v hv;have:=hh v hv;cases v<;>simp_all [cell1,notAgg]
  ·have:=hh v hv;cases v<;>simp_all [cell1,Value.oneCell']
 ·cases h
theorem x_build_struct {t:TypeId} {ps:Array (Nat×Operand)} {qs:List (Nat×Nat×SOpd)} {z ds:List D} {fs:Array Field} {pl:List (Nat×Nat)} (ho:o.op = .build t ps) (hz:zeroT P t=some z) (ht:P.underlying t=some (.struct fs)) (hp:placesT P fs=some pl)
  (hq:partsT num pl ps.toList=some qs) (hok:∀ p,p∈ps.toList→okOpd p.2=true) (hn:noTrees (qs.map fun q=>ov E q.2.2)=true) (h:buildD z (qs.map fun q=>(q.1,q.2.1,ov E q.2.2))=some ds):Pure1 P fid w A ι a o (.agg ds):=by
 obtain ⟨ti,zv,hti,hzv,hlz,_⟩:=lv_zero hnum hz
 obtain ⟨h1,h2⟩:=partsT_spec hq
 obtain ⟨cs,hf,hcs⟩:=fill_lv hnum hl (pl.toArray[·]?) ps.toList qs zv.cells.toList z ds hok h1 h2 hn hlz h
 refine ⟨.agg cs,?_,?_⟩
 ·simp only [execOp,ho]
  refine run_v (run_build w t _ cs ?_)
  unfold Program.built
  simp only [hti,ht,hzv]
  unfold placesT at hp
  simp only [hp]
  have:(ps.map fun x=>(x.1,a.eval x.2)).toList=ps.toList.map fun p=>(p.1,a.eval p.2):=by simp
  simpa using hf
 ·exact .agg cs.toList ds [] hcs
theorem x_build_array {t e:TypeId} {len n:Nat} {ps:Array (Nat×Operand)} {z ds:List D} (ho:o.op = .build t ps) (hz:zeroT P t=some z) (ht:P.underlying t=some (.array len e)) (hs:sizeT P e=some n)
  (hok:∀ p,p∈ps.toList→okOpd p.2=true) (hn:noTrees (ps.toList.map fun p=>ov E (opd num p.2))=true) (h:buildD z (ps.toList.map fun p=>(p.1*n,n,ov E (opd num p.2)))=some ds):Pure1 P fid w A ι a o (.agg ds):=by
 obtain ⟨ti,zv,hti,hzv,hlz,_⟩:=lv_zero hnum hz
 obtain ⟨te,hte,hsz⟩:=Option.map_eq_some_iff.1 hs
 obtain ⟨cs,hf,hcs⟩:=fill_lv hnum hl (fun i=>some (i*n,n)) ps.toList (ps.toList.map fun p=>(p.1*n,n,opd num p.2)) zv.cells.toList z ds hok (by simp)
  (by intro k p q hp hq;simp only [List.getElem?_map,hp,Option.map_some,Option.some.injEq] at hq;subst hq;exact ⟨rfl,rfl⟩) (by simpa [List.map_map,Function.comp_def] using hn) hlz (by simpa [List.map_map,Function.comp_def] using h)
 refine ⟨.agg cs,?_,?_⟩
 ·simp only [execOp,ho]
  refine run_v (run_build w t _ cs ?_)
  unfold Program.built
  simp only [hti,ht,hzv,hte,hsz]
  simpa using hf
 ·exact .agg cs.toList ds [] hcs
end
end Lg
namespace Lg
open Go
set_option linter.unusedVariables false
set_option linter.unusedSimpArgs false
set_option linter.unusedSectionVars false
def Does (P:Program) (fid:Nat→FuncId) (w:World) (A:Av) (ι:Io) (H:List Ob) (eo:List Nat) (a:Act) (o:Oper) (d:D) (u:Option (Nat×Ob)):Prop :=
 ∃ nx v w' A' O,(execOp a.eval o).run P w = .ok nx w'∧(nx = .value v∨(nx = .skip∧v=undef))∧XR fid w w' A A' ι H eo v d u O
theorem Pure1.does {P:Program} {fid:Nat→FuncId} {w:World} {A:Av} {ι:Io} {H:List Ob} {eo:List Nat} {a:Act} {o:Oper} {d:D} (h:Pure1 P fid w A ι a o d):Does P fid w A ι H eo a o d none:=by
 obtain ⟨v,h1,h2⟩:=h
 exact ⟨_,v,w,A,[],h1, .inl rfl,XR.val h2⟩
theorem okfr0 (n:Nat):okfr n (0,0):= .inl rfl
theorem LV.one {fid:Nat→FuncId} {w:World} {A:Av} {ι:Io} {r:Bool} {v:Value} {d:D} {O:List Nat} (h:LV fid w A ι r v d O) (hc:isCellD d=true):v.oneCell'=true:=by
 cases h<;>simp [isCellD] at hc<;>try rfl
 ·rename_i h;cases v<;>simp [isSc] at h<;>rfl
 ·assumption
theorem LVs.ones {fid:Nat→FuncId} {w:World} {A:Av} {ι:Io} {r:Bool} {vs:List Value} {ds:List D} {O:List Nat} (h:LVs fid w A ι r vs ds O) (hc:ds.all isCellD=true):∀ v,v∈vs→v.oneCell'=true:=by
 induction vs generalizing ds O with
 | nil=>intro v hv;cases hv
 | cons u vs ih =>
  cases h with
  | cons _ d O1 _ ds O2 h hs =>
   simp only [List.all_cons,Bool.and_eq_true] at hc
   intro v hv
   rcases List.mem_cons.1 hv with e | e
   ·subst e;exact h.one hc.1
   ·exact ih hs hc.2 v e
theorem run_newRow (P:Program) (w:World) (t:TypeId) (cs:Array Value):(newRow t cs).run P w = .ok ⟨w.heap.size,0,none⟩ (w.alloc (.cells cs t)):=rfl
section
variable {P:Program} {num:FuncId→Option Nat} {fid:Nat→FuncId} (hnum:∀ f g,num f=some g→fid g=f)
 {w:World} {A:Av} {ι:Io} {H:List Ob} {eo:List Nat} {a:Act} {E:Env} {own:Nat→List Nat} (hl:∀ t,LV fid w A ι true (a.tmps.getD t undef) (lk E t) (own t))
 (hob:∀ i,ObjOK fid w A ι (ι i) (obAt H i)) {o:Oper} {d:D}
theorem XR.box {vs:List Value} {ds:List D} {T:TypeId} {r:Bool} (h:LVs fid w A ι true vs ds []) (h1:∀ v,v∈vs→v.oneCell'=true) :
  XR fid w (w.alloc (.cells ⟨vs⟩ T)) A (newA A w.heap.size) ι H eo (.pointer (some ⟨w.heap.size,0,none⟩)) (.obx ds) none [w.heap.size]:=by
 have K:=Keep.alloc w A (.cells ⟨vs⟩ T)
 refine XR.new K ?_ (by simp) (by simp)
 exact .obx w.heap.size vs ds [] T (0,0) (alloc_heap_new w _) (okfr0 _) (LVs.keep K (fun _ _ e=>e) h (by simp)) h1 (fun off=> .inr rfl)
include hnum
theorem x_alloc {t:TypeId} {z:List D} (ho:o.op = .alloc t) (hz:zeroT P t=some z):Does P fid w A ι H eo a o (.obx z) none:=by
 obtain ⟨ti,zv,hti,hzv,hlz,h1⟩:=lv_zero (fid:=fid) (w:=w) (A:=A) (ι:=ι) hnum hz (r:=true)
 refine ⟨_,_,_,_,_,?_, .inl rfl,XR.box (T:=t) (r:=true) hlz h1⟩
 simp only [execOp,ho]
 refine run_v ?_
 have hz0:(zeroValue t).run P w = .ok zv w:=by simp [zeroValue,typeInfo,hti,hzv,Sem.run_bind]
 simp only [Instr.alloc,Sem.run_bind,hz0,Result.andThen_ok,newVar,run_newRow,Sem.run_pure]
include hl
theorem x_box {t:TypeId} {x:Operand} {n:Nat} (ho:o.op = .box t x) (hx:okOpd x=true) (hn:noTrees (ov E (opd num x)).cells=true) (hc:(ov E (opd num x)).cells.all isCellD=true):Does P fid w A ι H eo a o (.obx (ov E (opd num x)).cells) none:=by
 have kx:=(lv_opd hnum hl x hx).cells (cells_ne hc)
 rw [kx.noTree hn] at kx
 refine ⟨_,_,_,_,_,?_, .inl rfl,XR.box (T:=t) (r:=true) kx (kx.ones hc)⟩
 simp only [execOp,ho]
 refine run_v ?_
 simp only [Instr.box,Sem.run_bind,Result.andThen_ok,newVar,run_newRow,Sem.run_pure]
include hob
omit hnum hl in
theorem cellsAt_lv {v:Value} {O:List Nat} {cs:List D} (h:LV fid w A ι true v d O) (hc:cellsAt H d=some cs) :
  ∃ ad vs,v = .pointer (some ad)∧LVs fid w A ι true vs cs []∧∀ (k:Nat) (u:Value),vs[k]? = some u→w.cell? (ad.add k)=some u:=by
 unfold cellsAt at hc
 split at hc
 ·injection hc with hc;subst hc
  obtain ⟨ad,vs,e1,e2,h2,h3,h4⟩:=h.inv_ep
  exact ⟨ad,vs,e1,h2.weak,fun k u hk=>(h4 k u hk).2⟩
 ·rename_i id sz e off
  obtain ⟨b,hi,e1,e2,_⟩:=h.inv_pt
  split at hc
  ·rename_i ds hH
   split at hc
   ·rename_i he;subst he
    injection hc with hc;subst hc
    have ho:=hob id
    rw [obAt_of hH,hi] at ho
    obtain ⟨b',vs,T,fr,eb,h1,h2,h3,h4,h5⟩:=ho
    injection eb with eb;injection eb with eb;subst eb
    refine ⟨_,vs.drop off,e1,h3.drop off,fun k u hk=>?_⟩
    rw [drop_get] at hk
    rw [addr_add]
    refine cell_of h1 ?_
    simpa using hk
   ·cases hc
  ·rename_i wr sz' ds hH
   split at hc
   ·rename_i es;subst es
    split at hc
    ·rename_i d0 hd
     injection hc with hc;subst hc
     have ho:=hob id
     rw [obAt_of hH,hi] at ho
     rcases ho with ⟨eb,_⟩ | ⟨b',eb,cs,T,fr,vs,h1,h2,hu,h4,h5,h6,h7,h8⟩
     ·cases eb
     ·injection eb with eb;injection eb with eb;subst eb
      have hg:=flat_get hu hd
      have hm:LVs fid w A ι true ((vs.drop (e*sz)).take sz) d0.cells []:=by
       have:=(h4.drop (e*sz)).take sz
       rw [hg] at this
       exact this.weak
      refine ⟨_,((vs.drop (e*sz)).take sz).drop off,e1,hm.drop off,fun k u hk=>?_⟩
      rw [drop_get] at hk
      have hk':=take_get hk
      rw [drop_get] at hk'
      rw [addr_add]
      refine cell_of h1 ?_
      have:=h6 _ _ hk'
      rwa [show e*sz+off+k=e*sz+(off+k) by omega]
    ·cases hc
   ·cases hc
  ·cases hc
 ·cases hc
include hnum hl
theorem x_load {t:TypeId} {x:Operand} {n:Nat} {ag:Bool} (ho:o.op = .load t x) (h1:aggT P t=some ag) (h2:sizeT P t=some n) (hx:okOpd x=true) (h:(cellsAt H (ov E (opd num x))).bind (part ag n)=some d):Pure1 P fid w A ι a o d:=by
 obtain ⟨cs,hc,hp⟩:=Option.bind_eq_some_iff.1 h
 obtain ⟨ad,vs,e1,hv,hr⟩:=cellsAt_lv hob (lv_opd hnum hl x hx) hc
 have key:∃ v,(loadVar t ad).run P w = .ok v w∧LV fid w A ι true v d []:=by
  unfold loadVar
  simp only [Sem.run_bind,run_isAgg h1,Result.andThen_ok]
  unfold part at hp
  cases ag with
  | true =>
   simp only [if_true] at hp ⊢
   split at hp
   ·rename_i hle
    injection hp with hp;subst hp
    refine ⟨.agg ⟨vs.take n⟩,?_, .agg _ _ [] (hv.take n)⟩
    have hlen:(vs.take n).length=n:=by rw [List.length_take,hv.length_eq];omega
    have:=run_loadCells_list (P:=P) w ad (vs.take n) (fun j v hj=>hr j v (take_get hj))
    rw [hlen] at this
    simp only [Sem.run_bind,run_sizeT h2,Result.andThen_ok,this,Sem.run_pure]
   ·cases hp
  | false =>
   simp only [Bool.false_eq_true,if_false] at hp ⊢
   split at hp
   ·rename_i c cs'
    injection hp with hp;subst hp
    obtain ⟨v,hv1,hv2⟩:=hv.get (k:=0) (d:=c) rfl
    refine ⟨v,?_,hv2⟩
    have:=hr 0 v hv1
    have ha:ad.add 0=ad:=by unfold Addr.add;simp
    rw [ha] at this
    simp [run_load,this]
   ·cases hp
 obtain ⟨v,hrun,hlv⟩:=key
 refine ⟨v,?_,hlv⟩
 simp only [execOp,ho]
 refine run_v ?_
 rw [e1]
 simp only [Instr.loadAt,Instr.sureAddr,Sem.run_bind,Sem.run_pure,Result.andThen_ok,hrun]
end
end Lg
namespace Lg
open Go
set_option linter.unusedVariables false
set_option linter.unusedSimpArgs false
set_option linter.unusedSectionVars false
theorem flat_split {ds:List D} {sz:Nat} (hu:∀ d,d∈ds→d.cells.length=sz) {e:Nat} {d:D} (h:ds[e]? = some d):flat ds=(flat ds).take (e*sz)++(d.cells++(flat ds).drop (e*sz+sz)):=by
 have:=flat_get hu h
 conv=>lhs;rw [←List.take_append_drop (e*sz) (flat ds)]
 congr 1
 rw [←List.drop_drop]
 conv=>lhs;rw [←List.take_append_drop sz ((flat ds).drop (e*sz))]
 rw [this]
theorem flat_set {ds:List D} {sz:Nat} (hu:∀ d,d∈ds→d.cells.length=sz) {e:Nat} {d d':D} (h:ds[e]? = some d):flat (ds.set e d')=(flat ds).take (e*sz)++(d'.cells++(flat ds).drop (e*sz+sz)):=by
 have hlt:e<ds.length:=by
  rcases Nat.lt_or_ge e ds.length with h' | h'
  ·exact h'
  ·rw [List.getElem?_eq_none h'] at h;cases h
 have happ:∀ l1 l2:List D,flat (l1++l2)=flat l1++flat l2:=fun l1 l2=>by simp [flat]
 rw [List.set_eq_take_append_cons_drop,if_pos hlt,happ,flat_cons,←flat_take hu,←flat_drop hu,Nat.add_mul,Nat.one_mul]
theorem flat_put {ds:List D} {sz:Nat} (hu:∀ d,d∈ds→d.cells.length=sz) {e off:Nat} {d d':D} {es:List D} (h:ds[e]? = some d) (hp:putCells d.cells off es=some d'.cells) :
  putCells (flat ds) (e*sz+off) es=some (flat (ds.set e d')):=by
 obtain ⟨h1,h2⟩:=putCells_some hp
 have hd:=hu d (List.mem_of_getElem? h)
 have hs:=flat_split hu h
 have hfl:=flat_len hu
 have hlt:e<ds.length:=by
  rcases Nat.lt_or_ge e ds.length with h' | h'
  ·exact h'
  ·rw [List.getElem?_eq_none h'] at h;cases h
 have hle:e*sz+sz≤(flat ds).length:=by
  rw [hfl]
  have:(e+1)*sz≤ds.length*sz:=Nat.mul_le_mul_right _ hlt
  rw [Nat.add_mul] at this;omega
 unfold putCells
 rw [if_pos (by omega)]
 congr 1
 rw [flat_set hu h,h2]
 generalize hF:flat ds=F at *
 have hpl:(F.take (e*sz)).length=e*sz:=by simp;omega
 have e1:F.take (e*sz+off)=F.take (e*sz)++d.cells.take off:=by
  conv=>lhs;rw [hs]
  rw [List.take_append,hpl,List.take_of_length_le (by omega),show e*sz+off-e*sz=off by omega,List.take_append]
  rw [show off-d.cells.length=0 by omega];simp
 have e2:F.drop (e*sz+off+es.length)=d.cells.drop (off+es.length)++F.drop (e*sz+sz):=by
  conv=>lhs;rw [hs]
  rw [List.drop_append,hpl,List.drop_of_length_le (by omega),show e*sz+off+es.length-e*sz=off+es.length by omega,List.drop_append]
  rw [show off+es.length-d.cells.length=0 by omega];simp
 rw [e1,e2]
 simp
theorem setRow_lv {fid:Nat→FuncId} {w:World} {A:Av} {b:Nat} {cs:Array Value} {T:TypeId} {fr:Nat×Nat} {us:List Value} {o:Nat} (hb:w.heap[b]? = some (.cells cs T fr)) (hle:o+us.length≤cs.size)
  (hA:∀ k,k<us.length→A b (o+k)):Keep w (w.setRow b ⟨cs.toList.take o++us++cs.toList.drop (o+us.length)⟩) A A (fun x=>x=b):=by
 refine Keep.setRow hb (by simp;omega) fun off hn=>?_
 have:=splice_get cs.toList us o (by simpa using hle) off
 simp only [List.getElem?_toArray] at this ⊢
 have h2:(⟨cs.toList.take o++us++cs.toList.drop (o+us.length)⟩:Array Value)[off]? = (cs.toList.take o++us++cs.toList.drop (o+us.length))[off]?:=by simp
 rw [this]
 split
 ·simp
 ·split
  ·rename_i h3 h4
   exfalso
   exact hn (by have:=hA (off-o) (by omega);rwa [show o+(off-o)=off by omega] at this)
  ·simp
section
variable {P:Program} {num:FuncId→Option Nat} {fid:Nat→FuncId} (hnum:∀ f g,num f=some g→fid g=f)
 {w:World} {A:Av} {ι:Io} {H:List Ob} {eo:List Nat} {a:Act} {E:Env} {own:Nat→List Nat} (hl:∀ t,LV fid w A ι true (a.tmps.getD t undef) (lk E t) (own t))
 (hob:∀ i,ObjOK fid w A ι (ι i) (obAt H i)) {o:Oper} {d:D}
include hob
theorem store_lv {v:Value} {dv dx:D} {n:Nat} {xv:Value} {O:List Nat} {u:Option (Nat×Ob)} (hv:LV fid w A ι true v dv []) (hc:dv.cells.all isCellD=true) (hx:LV fid w A ι true xv dx O) (h:storeD H n dv dx=some (d,u)) :
  ∃ b off w',xv = .pointer (some ⟨b,off,none⟩)∧(storeCells ⟨b,off,none⟩ v.cells.toList 0).run P w = .ok () w'∧v.cells.size=n∧XR fid w w' A A ι H eo undef d u []:=by
 unfold storeD at h
 split at h
 ·rename_i id sz e off
  obtain ⟨b,hi,e1,e2,_⟩:=hx.inv_pt
  have hvc:=hv.cells (cells_ne hc)
  have hlen:=hvc.length_eq
  have hones:=hvc.ones hc
  have hus:v.cells.toList.length=v.cells.size:=by simp
  split at h
  ·rename_i ds hH
   have hob1:=hob id
   rw [obAt_of hH,hi] at hob1
   obtain ⟨b',vs,T,fr,eb,h1,h2,h3,h4,h5⟩:=hob1
   injection eb with eb;injection eb with eb;subst eb
   split at h
   ·rename_i hh
    obtain ⟨rfl,hn⟩:=hh
    obtain ⟨ds',hp,he⟩:=Option.map_eq_some_iff.1 h
    simp only [Prod.mk.injEq] at he
    obtain ⟨rfl,rfl⟩:=he
    obtain ⟨hle,rfl⟩:=putCells_some hp
    have hle':off+v.cells.toList.length≤vs.length:=by rw [h3.length_eq];omega
    have hrun:=run_storeCells_okfr P b off T fr v.cells.toList 0 ⟨vs⟩ w h1 (by simpa using h2) (by simpa using hle') hones
    have K:=setRow_lv (fid:=fid) (A:=A) (us:=v.cells.toList) (o:=off) h1 (by simpa using hle') (fun k _=>h5 _)
    refine ⟨b,off,_,by simpa using e1,hrun,by rw [←hn,←hlen,hus],?_⟩
    simp only [Nat.add_zero] at K ⊢
    refine ⟨K.mono (by rintro x rfl;exact .inr ⟨id,_,rfl,hi⟩), .un _,?_,List.nodup_nil,by simp⟩
    intro i ob hu
    injection hu with hu
    simp only [Prod.mk.injEq] at hu
    obtain ⟨rfl,rfl⟩:=hu
    refine ⟨⟨b,_,T,fr,hi,setRow_heap w b _ _ T fr h1,by simp only [splice_size _ _ _ hle'];exact h2,LVs.keep K (fun _ _ e=>e) (h3.splice hvc) (by simp),?_,h5⟩,lt_of_get hH,by rw [obAt_of hH];rfl⟩
    intro x hx
    simp only [List.mem_append] at hx
    rcases hx with (hx | hx) | hx
    ·exact h4 x (List.mem_of_mem_take hx)
    ·exact hones x hx
    ·exact h4 x (List.mem_of_mem_drop hx)
   ·cases h
  ·rename_i sz' ds hH
   have hob1:=hob id
   rw [obAt_of hH,hi] at hob1
   split at h
   ·rename_i hh
    obtain ⟨rfl,hn,hro⟩:=hh
    obtain ⟨d0,hd,h⟩:=Option.bind_eq_some_iff.1 h
    obtain ⟨d',hd',he⟩:=Option.map_eq_some_iff.1 h
    simp only [Prod.mk.injEq] at he
    obtain ⟨rfl,rfl⟩:=he
    rcases hob1 with ⟨eb,_⟩ | ⟨b',eb,cs,T,fr,vs,h1,h2,hu,h4,h5,h6,h7,h8⟩
    ·cases eb
    ·injection eb with eb;injection eb with eb;subst eb
     have hd0:=hu d0 (List.mem_of_getElem? hd)
     have hput:putCells d0.cells off dv.cells=some d'.cells:=by
      split at hd'
      ·rename_i hz
       obtain ⟨rfl,rfl⟩:=hz
       injection hd' with hd';subst hd'
       unfold putCells
       rw [if_pos (by omega)]
       simp;omega
      ·try rw [if_pos hd0] at hd'
       obtain ⟨x,hx1,hx2⟩:=Option.map_eq_some_iff.1 hd'
       subst hx2;exact hx1
     have hfp:=flat_put hu hd hput
     obtain ⟨hle,hfe⟩:=putCells_some hfp
     have hvl:=h4.length_eq
     have hvcs:vs.length≤cs.size:=by
      rcases Nat.lt_or_ge cs.size vs.length with h' | h'
      ·exfalso
       have:=h6 cs.size _ (List.getElem?_eq_getElem h')
       simp at this
      ·exact h'
     have hle':e*sz+off+v.cells.toList.length≤cs.size:=by omega
     have hrun:=run_storeCells_okfr P b (e*sz+off) T fr v.cells.toList 0 cs w h1 h2 (by simpa using hle') hones
     have K:=setRow_lv (fid:=fid) (A:=A) (us:=v.cells.toList) (o:=e*sz+off) h1 hle' (fun k _=>h7 rfl _)
     refine ⟨b,e*sz+off,_,e1,hrun,by rw [←hn,←hlen,hus],?_⟩
     simp only [Nat.add_zero] at K ⊢
     refine ⟨K.mono (by rintro x rfl;exact .inr ⟨id,_,rfl,hi⟩), .un _,?_,List.nodup_nil,by simp⟩
     intro i ob hu'
     injection hu' with hu'
     simp only [Prod.mk.injEq] at hu'
     obtain ⟨rfl,rfl⟩:=hu'
     have hvro:=(hv.ro hro).cells (cells_ne hc)
     have hlv':LVs fid w A (fun _=>none) false (vs.take (e*sz+off)++v.cells.toList++vs.drop (e*sz+off+v.cells.toList.length)) (flat (ds.set e d')) []:=by
      rw [hfe];exact LVs.weak (h4.splice hvro.weak)
     have hvle:e*sz+off+v.cells.toList.length≤vs.length:=by omega
     have hd'l:d'.cells.length=sz:=by
      obtain ⟨q1,q2⟩:=putCells_some hput
      rw [q2];simp;omega
     refine ⟨.inr ⟨b,hi,_,T,fr,_,setRow_heap w b _ _ T fr h1,?_,?_,LVs.keep K (fun _ _ e=>e) hlv' (by simp),?_,?_,fun _=>h7 rfl,?_⟩,lt_of_get hH,by rw [obAt_of hH];rfl⟩
     ·have:(⟨cs.toList.take (e*sz+off)++v.cells.toList++cs.toList.drop (e*sz+off+v.cells.toList.length)⟩:Array Value).size=cs.size:=by simp;omega
      rw [this];exact h2
     ·intro x hx
      rcases List.mem_or_eq_of_mem_set hx with hx | hx
      ·exact hu x hx
      ·rw [hx];exact hd'l
     ·intro x hx
      simp only [List.mem_append] at hx
      rcases hx with (hx | hx) | hx
      ·exact h5 x (List.mem_of_mem_take hx)
      ·exact hones x hx
      ·exact h5 x (List.mem_of_mem_drop hx)
     ·intro k x hk
      rw [splice_get vs _ _ hvle] at hk
      have h2':(⟨cs.toList.take (e*sz+off)++v.cells.toList++cs.toList.drop (e*sz+off+v.cells.toList.length)⟩:Array Value)[k]? = (cs.toList.take (e*sz+off)++v.cells.toList++cs.toList.drop (e*sz+off+v.cells.toList.length))[k]?:=by simp
      rw [h2',splice_get cs.toList _ _ (by simpa using hle')]
      split at hk
      ·rename_i hk1;rw [if_pos hk1];simpa using h6 k x hk
      ·rename_i hk1
       rw [if_neg hk1]
       split at hk
       ·rename_i hk2;rw [if_pos hk2];exact hk
       ·rename_i hk2;rw [if_neg hk2];simpa using h6 k x hk
     ·intro off' ho;exact h7 rfl off'
   ·cases h
  ·cases h
 ·cases h
include hnum hl
theorem x_store {t:TypeId} {x v:Operand} {n:Nat} {u:Option (Nat×Ob)} (ho:o.op = .store t x v) (hs:sizeT P t=some n) (hx:okOpd x=true) (hv:okOpd v=true) (hn:noTree (ov E (opd num v))=true) (hc:(ov E (opd num v)).cells.all isCellD=true)
  (h:storeD H n (ov E (opd num v)) (ov E (opd num x))=some (d,u)):Does P fid w A ι H eo a o d u:=by
 have kv:=lv_opd hnum hl v hv
 rw [kv.noTree hn] at kv
 obtain ⟨b,off,w',e1,hrun,hsz,X⟩:=store_lv (P:=P) (eo:=eo) hob kv hc (lv_opd hnum hl x hx) h
 refine ⟨_,undef,w',A,[],?_, .inr ⟨rfl,rfl⟩,X⟩
 simp only [execOp,ho]
 refine run_u ?_
 rw [e1]
 simp only [Instr.storeAt,Instr.sureAddr,Sem.run_bind,Sem.run_pure,Result.andThen_ok,storeVar,run_sizeT hs,hsz]
 simp [hrun]
end
end Lg
namespace Lg
open Go
set_option linter.unusedVariables false
set_option linter.unusedSimpArgs false
set_option linter.unusedSectionVars false
section
variable {P:Program} {num:FuncId→Option Nat} {fid:Nat→FuncId} (hnum:∀ f g,num f=some g→fid g=f)
 {w:World} {A:Av} {ι:Io} {H:List Ob} {eo:List Nat} {a:Act} {E:Env} {own:Nat→List Nat} (hl:∀ t,LV fid w A ι true (a.tmps.getD t undef) (lk E t) (own t))
 (hob:∀ i,ObjOK fid w A ι (ι i) (obAt H i)) {o:Oper} {d:D}
include hob
theorem slD_lv {v:Value} {O:List Nat} {sz:Nat} {ds:List D} (h:LV fid w A ι true v d O) (hs:slD H d=some (sz,ds)) :
  ∃ ad cap vs,v = .slice ad ds.length cap∧LVs fid w A (fun _=>none) false vs (flat ds) []∧(∀ v,v∈vs→v.oneCell'=true)∧(∀ d,d∈ds→d.cells.length=sz) ∧
   ∀ (k:Nat) (u:Value),vs[k]? = some u→∃ x,ad=some x∧w.cell? (x.add k)=some u:=by
 unfold slD at hs
 split at hs
 ·rename_i sz' ds'
  simp only [Option.some.injEq,Prod.mk.injEq] at hs
  obtain ⟨rfl,rfl⟩:=hs
  obtain ⟨ad,cap,vs,e1,e2,hc,hu,h2,h3,h4⟩:=h.inv_sl
  exact ⟨ad,cap,vs,e1,h2.weak,h3,hu,fun k u hk=>by obtain ⟨x,e,_,hx⟩:=h4 k u hk;exact ⟨x,e,hx⟩⟩
 ·rename_i wr sz' ds'
  simp only [Option.some.injEq,Prod.mk.injEq] at hs
  obtain ⟨rfl,rfl⟩:=hs
  cases h with
  | osln ad=>exact ⟨ad,0,[],rfl, .nil,by simp,by simp,by simp⟩
  | osl b cap _ _ _ vs cs T fr hb hf hu hv h1 hr hc hs ha hA =>
   exact ⟨_,cap,vs,rfl,hv.weak,h1,hu,fun k u hk=>⟨_,rfl,by rw [addr_add];exact cell_of hb (by rw [Nat.zero_add];exact hr k u hk)⟩⟩
 ·simp only [Option.some.injEq,Prod.mk.injEq] at hs
  obtain ⟨rfl,rfl⟩:=hs
  obtain ⟨ad,e,_⟩:=h.inv_sn
  exact ⟨ad,0,[],by simpa using e, .nil,by simp,by simp,by simp⟩
 ·rename_i id sz0 off len
  obtain ⟨ad,cap,q,e1,e2,_,hi,h0,h1⟩:=h.inv_rf
  split at hs
  ·rename_i wr sz' ds' hH
   split at hs
   ·rename_i hh
    simp only [Option.some.injEq,Prod.mk.injEq] at hs
    obtain ⟨rfl,rfl⟩:=hs
    have hlen:((ds'.drop off).take len).length=len:=by rw [List.length_take,List.length_drop];omega
    have ho:=hob id
    rw [obAt_of hH,hi] at ho
    rcases ho with ⟨eb,rfl⟩ | ⟨b,eb,cs,T,fr,vs,g1,g2,hu,g4,g5,g6,g7,g8⟩
    ·injection eb with eb
     have:=h0 eb
     simp at hh
     obtain ⟨hl0,hc0,ho0⟩:=this
     subst hl0
     exact ⟨ad,cap,[],by simpa using e1,by simp [flat];exact .nil,by simp,by simp,by simp⟩
    ·injection eb with eb
     obtain ⟨k1,k2,_⟩:=h1 b eb
     refine ⟨ad,cap,(vs.drop (off*sz')).take (len*sz'),by rw [hlen];exact e1,?_,fun v hv=>g5 v (List.mem_of_mem_drop (List.mem_of_mem_take hv)),fun d hd=>hu d (List.mem_of_mem_drop (List.mem_of_mem_take hd)),fun k u hk=>?_⟩
     ·have:=(g4.drop (off*sz')).take (len*sz')
      rw [flat_drop hu,flat_take (fun d hd=>hu d (List.mem_of_mem_drop hd))] at this
      exact this
     ·have hk':=take_get hk
      rw [drop_get] at hk'
      have hlt:k<len*sz':=by
       rw [List.getElem?_take] at hk
       split at hk
       ·assumption
       ·cases hk
      rcases k1 with rfl | k1
      ·refine ⟨_,rfl,?_⟩
       rw [addr_add]
       refine cell_of g1 ?_
       have:=g6 _ _ hk'
       rcases hh.1 with e | e
       ·subst e;simpa using this
       ·subst e;exact this
      ·exfalso
       have:len=0:=by omega
       rw [this] at hlt;omega
   ·cases hs
  ·cases hs
 ·cases hs
omit hob in
theorem run_loadCells_world {w':World} (hw:w'.heap=w.heap) {x:Addr} {vs:List Value} (h:∀ (k:Nat) (u:Value),vs[k]? = some u→w.cell? (x.add k)=some u):(loadCells x vs.length).run P w' = .ok vs.toArray w':=by
 refine run_loadCells_list (P:=P) w' x vs fun j v hj=>?_
 have:=h j v hj
 simpa [World.cell?,hw] using this
theorem appendY_lv {v:Value} {O:List Nat} {sz:Nat} {ys:List D} (hsz:0<sz) (h:LV fid w A ι true v d O) (hs:appendY H sz d=some ys) :
  ∃ us,LVs fid w A (fun _=>none) false us (flat ys) []∧(∀ v,v∈us→v.oneCell'=true)∧(∀ d,d∈ys→d.cells.length=sz)∧us.length=ys.length*sz ∧
   (∀ w':World,(Builtin.lenOf v).run P w' = .ok ys.length w')∧(∀ m,m≤ys.length→∀ w':World,w'.heap=w.heap→(Builtin.firstCells sz m v).run P w' = .ok (us.take (m*sz)).toArray w'):=by
 unfold appendY at hs
 split at hs
 ·rename_i s
  split at hs
  ·rename_i e1
   subst e1
   injection hs with hs;subst hs
   have e:=h.inv_str.1
   subst e
   refine ⟨s.data.toList.map fun b=> .int .u8 b.toNat,?_,?_,?_,by simp,?_,?_⟩
   ·have hf:flat (s.data.toList.map fun b=>D.sc (.int .u8 b.toNat))=s.data.toList.map fun b=>D.sc (.int .u8 b.toNat):=by
     induction s.data.toList with
     | nil=>rfl
     | cons b l ih=>simp only [List.map_cons,flat_cons,D.cells,ih];rfl
    rw [hf]
    induction s.data.toList with
    | nil=>exact .nil
    | cons b l ih=>exact LVs.cons' (.sc _ rfl) ih
   ·intro v hv;obtain ⟨b,_,rfl⟩:=List.mem_map.1 hv;rfl
   ·intro d hd;obtain ⟨b,_,rfl⟩:=List.mem_map.1 hd;rfl
   ·intro w';simp [Builtin.lenOf]
   ·intro m hm w' _
    simp only [Builtin.firstCells,Sem.run_pure,Nat.mul_one]
    congr 1
    apply Array.ext'
    simp [List.extract_eq_take_drop,List.map_take]
  ·cases hs
 ·split at hs
  ·rename_i sz' ys' hsl
   split at hs
   ·rename_i hz
    injection hs with hs;subst hs
    obtain ⟨ad,cap,vs,rfl,h2,h3,hu,h4⟩:=slD_lv hob h hsl
    have hu':∀ d,d∈ys'→d.cells.length=sz:=by
     rcases hz with hz | hz
     ·subst hz;exact hu
     ·cases ys' with
      | nil=>simp
      | cons=>simp [isNil] at hz
    have hvl:vs.length=ys'.length*sz:=by rw [h2.length_eq,flat_len hu']
    refine ⟨vs,h2,h3,hu',hvl,fun w'=>by simp [Builtin.lenOf],fun m hm w' hw=>?_⟩
    have hml:(vs.take (m*sz)).length=m*sz:=by
     rw [List.length_take,hvl]
     have:=Nat.mul_le_mul_right sz hm
     omega
    cases ad with
    | none =>
     have:vs=[]:=by
      cases vs with
      | nil=>rfl
      | cons u vs=>obtain ⟨x,e,_⟩:=h4 0 u rfl;cases e
     subst this
     simp [Builtin.firstCells]
    | some x =>
     have:=run_loadCells_world (P:=P) (w:=w) hw (x:=x) (vs:=vs.take (m*sz)) (fun k u hk=>by obtain ⟨x',e,hx⟩:=h4 k u (take_get hk);injection e with e;subst e;exact hx)
     rw [hml] at this
     simpa [Builtin.firstCells] using this
   ·cases hs
  ·cases hs
end
theorem growBy_le (need:Nat):∀ (n c:Nat),256≤c→c≤2*need→Builtin.growBy need n c≤2*need
 | 0,c,_,h=>h
 | n+1,c,h0,h=>by
  unfold Builtin.growBy
  split
  ·exact h
  ·exact growBy_le need n _ (by omega) (by omega)
theorem nextslicecap_le {need cap:Nat} (h:cap<need):Builtin.nextslicecap need cap≤2*need:=by
 unfold Builtin.nextslicecap
 split
 ·omega
 ·split
  ·omega
  ·exact growBy_le need 4 cap (by omega) (by omega)
theorem forced_appendCap (n m:Nat) (e:TypeId):(Question.appendCap n m e).forced=false:=rfl
end Lg
namespace Lg
open Go
set_option linter.unusedVariables false
set_option linter.unusedSimpArgs false
set_option linter.unusedSectionVars false
theorem run_zeroT {P:Program} {w:World} {e:TypeId} {n:Nat} (h:(zeroT P e).map List.length=some n):∃ zv:Value,zv.cells.size=n∧∀ w:World,(zeroValue e).run P w = .ok zv w:=by
 obtain ⟨z,hz,hn⟩:=Option.map_eq_some_iff.1 h
 unfold zeroT at hz
 obtain ⟨zv,hz1,hz2⟩:=Option.bind_eq_some_iff.1 hz
 obtain ⟨ti,hti,hzz⟩:=Option.bind_eq_some_iff.1 hz1
 split at hz2
 ·injection hz2 with hz2
  refine ⟨zv,?_,fun w=>by simp [zeroValue,typeInfo,hti,hzz,Sem.run_bind]⟩
  rw [←hn,←hz2];simp
 ·cases hz2
theorem size_zeroCells (z:Array Value) (n:Nat):(Builtin.zeroCells z n).size=n*z.size:=by simp [Builtin.zeroCells]
theorem seqT_cases {du:TypeDesc} (h:seqT du=true):(∃ x,du = .slice x)∨du = .string:=by
 cases du<;>simp [seqT] at h
 ·exact .inr rfl
 ·exact .inl ⟨_,rfl⟩
section
variable {P:Program} {w:World}
theorem run_append_fits {t u e ty:TypeId} {du:TypeDesc} {sz len cap n:Nat} {b:Nat} {yv:Value} {us:List Value} {cs:Array Value} {T:TypeId} {fr:Nat×Nat}
  (ht:P.underlying t=some (.slice e)) (hu:P.underlying u=some du) (hdu:seqT du=true) (hs:sizeT P e=some sz) (hlen:(Builtin.lenOf yv).run P w = .ok n w) (hc:(Builtin.firstCells sz n yv).run P w = .ok us.toArray w)
  (hul:us.length=n*sz) (hb:w.heap[b]? = some (.cells cs T fr)) (hf:okfr cs.size fr) (hle:len*sz+us.length≤cs.size) (h1:∀ v,v∈us→v.oneCell'=true) (hfit:len+n≤cap) :
  (Builtin.append_ #[t,u] ty #[.slice (some ⟨b,0,none⟩) len cap,yv]).run P w = .ok (.slice (some ⟨b,0,none⟩) (len+n) cap) (w.setRow b ⟨cs.toList.take (len*sz)++us++cs.toList.drop (len*sz+us.length)⟩):=by
 have hst:=run_storeCells_okfr P b (len*sz) T fr us 0 cs w hb hf (by simpa using hle) h1
 have hadd:(⟨b,0,none⟩:Addr).add (len*sz)=⟨b,len*sz,none⟩:=by rw [addr_add,Nat.zero_add]
 simp only [Nat.add_zero] at hst
 unfold Builtin.append_
 rcases seqT_cases hdu with ⟨x,rfl⟩ | rfl
 all_goals simp only [List.getElem?_toArray,List.getElem?_cons_zero,List.getElem?_cons_succ,Sem.run_bind,run_underlying ht,run_underlying hu,run_sizeT hs,Result.andThen_ok,Sem.run_pure,Bool.false_eq_true,if_false,hlen,Bool.not_false,if_true,if_pos hfit,hc,hadd,hst]
theorem run_append_nothing {t u e ty:TypeId} {du:TypeDesc} {sz:Nat} {ad:Option Addr} {yv:Value}
  (ht:P.underlying t=some (.slice e)) (hu:P.underlying u=some du) (hdu:seqT du=true) (hs:sizeT P e=some sz) (hlen:(Builtin.lenOf yv).run P w = .ok 0 w) (hc:(Builtin.firstCells sz 0 yv).run P w = .ok #[] w) :
  (Builtin.append_ #[t,u] ty #[.slice ad 0 0,yv]).run P w = .ok (.slice ad 0 0) w:=by
 unfold Builtin.append_
 rcases seqT_cases hdu with ⟨x,rfl⟩ | rfl
 all_goals simp only [List.getElem?_toArray,List.getElem?_cons_zero,List.getElem?_cons_succ,Sem.run_bind,run_underlying ht,run_underlying hu,run_sizeT hs,Result.andThen_ok,Sem.run_pure,Bool.false_eq_true,if_false,hlen,Bool.not_false,if_true,hc,Nat.add_zero,Nat.le_refl,Nat.zero_mul]
 all_goals (cases ad<;>simp [Sem.run_bind,storeCells])
theorem run_append_grows {t u e ty:TypeId} {du:TypeDesc} {sz by_ len cap n:Nat} {base:Option Addr} {yv:Value} {os us:List Value}
  (ht:P.underlying t=some (.slice e)) (hu:P.underlying u=some du) (hdu:seqT du=true) (hs:sizeT P e=some sz) (hby:bytesT P e=some by_) (hb0:0<by_) (hz:(zeroT P e).map List.length=some sz)
  (hlen:(Builtin.lenOf yv).run P w = .ok n w) (hc:∀ w',w'.heap=w.heap→(Builtin.firstCells sz n yv).run P w' = .ok us.toArray w') (hco:∀ w',w'.heap=w.heap→(Builtin.firstCells sz len (.slice base len cap)).run P w' = .ok os.toArray w')
  (hol:os.length=len*sz) (hul:us.length=n*sz) (hgt:cap<len+n) (hbd:(len+n)*by_≤140737488355328) :
  ∃ (c:Nat) (rest:List Value),len+n≤c∧(os++us++rest).length=c*sz ∧
   (Builtin.append_ #[t,u] ty #[.slice base len cap,yv]).run P w = .ok (.slice (some ⟨w.heap.size,0,none⟩) (len+n) c) (w.drew.alloc (.cells ⟨os++us++rest⟩ e)):=by
 obtain ⟨ti,hti,hbb⟩:=Option.map_eq_some_iff.1 hby
 obtain ⟨zv,hzs,hzr⟩:=run_zeroT (w:=w) hz
 let c:=(Question.appendCap (len+n) cap e).cut (w.tape w.drawn (.appendCap (len+n) cap e))
 have hcc:c=(len+n)+(w.tape w.drawn (.appendCap (len+n) cap e)) % (2 ^ 63-(len+n)):=rfl
 have hle:len+n≤c:=by omega
 have hw:w.drew.heap=w.heap:=rfl
 have hnc:=nextslicecap_le hgt
 refine ⟨c,(Builtin.zeroCells zv.cells (c-(len+n))).toList,hle,?_,?_⟩
 ·simp only [List.length_append,hol,hul,Array.length_toList,size_zeroCells,hzs]
  rw [←Nat.add_mul,←Nat.add_mul];congr 1;omega
 ·have h2:¬(Builtin.nextslicecap (len+n) cap*ti.bytes>2 ^ 48):=by
   rw [hbb]
   have:Builtin.nextslicecap (len+n) cap*by_≤2*(len+n)*by_:=Nat.mul_le_mul_right _ hnc
   rw [Nat.mul_assoc] at this
   omega
  have h3:¬((((len+n:Nat):Int)>IntKind.i64.max)∧(false=true∨ti.bytes=0)):=by
   rintro ⟨_,h | h⟩
   ·cases h
   ·omega
  have hti':∀ w:World,(typeInfo e).run P w = .ok ti w:=fun w=>by simp [typeInfo,hti,Sem.run_bind]
  have hch:(choose (.appendCap (len+n) cap e)).run P w = .ok c w.drew:=by
   rw [run_choose_drew];simp [forced_appendCap];rfl
  unfold Builtin.append_
  rcases seqT_cases hdu with ⟨x,rfl⟩ | rfl
  all_goals simp only [List.getElem?_toArray,List.getElem?_cons_zero,List.getElem?_cons_succ,Sem.run_bind,run_underlying ht,run_underlying hu,run_sizeT hs,Result.andThen_ok,Sem.run_pure,Bool.false_eq_true,if_false,hlen,Bool.not_false,if_true,
   if_neg (Nat.not_le.2 hgt),hti',if_neg h2,hch,run_askRoom,hco _ hw,hc _ hw,hzr,run_newRow]
  all_goals rw [if_neg (by simpa using h3)]
  all_goals simp only [Sem.run_bind,hti',Result.andThen_ok,if_neg h2,hch,run_askRoom,hco _ hw,hc _ hw,hzr,run_newRow,Sem.run_pure]
  all_goals congr 2
  all_goals congr 1
  all_goals (apply Array.ext';simp)
end
end Lg
namespace Lg
open Go
set_option linter.unusedVariables false
set_option linter.unusedSimpArgs false
set_option linter.unusedSectionVars false
theorem flat_app (l1 l2:List D):flat (l1++l2)=flat l1++flat l2:=by simp [flat]
theorem Keep.drew (w:World) (A:Av) (C:Nat→Prop):Keep w w.drew A A C:=Keep.same (w:=w) (w':=w.drew) rfl rfl rfl rfl A C
theorem prefix_len {vs:List Value} {cs:Array Value} (h:∀ (k:Nat) (v:Value),vs[k]? = some v→cs[k]? = some v):vs.length≤cs.size:=by
 rcases Nat.lt_or_ge cs.size vs.length with h' | h'
 ·exfalso
  have:=h cs.size _ (List.getElem?_eq_getElem h')
  simp at this
 ·exact h'
section
variable {P:Program} {num:FuncId→Option Nat} {fid:Nat→FuncId} (hnum:∀ f g,num f=some g→fid g=f)
 {w:World} {A:Av} {ι:Io} {H:List Ob} {eo:List Nat} {a:Act} {E:Env} {own:Nat→List Nat} (hl:∀ t,LV fid w A ι true (a.tmps.getD t undef) (lk E t) (own t))
 (hob:∀ i,ObjOK fid w A ι (ι i) (obAt H i)) {o:Oper} {d:D}
theorem LV.newRow {w1:World} {vs rest:List Value} {ds:List D} {n c sz:Nat} {e:TypeId} {wr r:Bool} (K:Keep w w1 A A (fun _=>False)) (h:LVs fid w A (fun _=>none) false vs (flat ds) []) (h1:∀ v,v∈vs→v.oneCell'=true)
  (hu:∀ d,d∈ds→d.cells.length=sz) (hn:ds.length=n) (hc:n≤c) (hs:(vs++rest).length=c*sz) :
  LV fid (w1.alloc (.cells ⟨vs++rest⟩ e)) (newA A w1.heap.size) ι r (.slice (some ⟨w1.heap.size,0,none⟩) n c) (.osl wr sz ds) [w1.heap.size]:=by
 subst hn
 have K2:=Keep.alloc w1 A (.cells ⟨vs++rest⟩ e)
 have h':=LVs.keep K2 (ι':=fun _=>none) (fun _ _ e=>e) (LVs.keep K (ι':=fun _=>none) (fun _ _ e=>e) h (by simp)) (by simp)
 refine .osl w1.heap.size c sz wr ds vs ⟨vs++rest⟩ e (0,0) (alloc_heap_new w1 _) (okfr0 _) hu h'.weak h1 ?_ hc ?_ (fun _ off=> .inr rfl) (fun off _=> .inr rfl)
 ·intro k v hk
  have hlt:k<vs.length:=by
   rcases Nat.lt_or_ge k vs.length with h' | h'
   ·exact h'
   ·rw [List.getElem?_eq_none h'] at hk;cases hk
  simp only [List.getElem?_toArray]
  rw [List.getElem?_append_left hlt];exact hk
 ·have:(⟨vs++rest⟩:Array Value).size=(vs++rest).length:=rfl
  rw [this,hs];exact Nat.le_refl _
theorem append_does {t u e ty:TypeId} {du:TypeDesc} {sz by_:Nat} {ys:List D} {us:List Value} {yv xv:Value} {dx:D} {Ox:List Nat} {up:Option (Nat×Ob)} (hsz0:0<sz)
  (ht:P.underlying t=some (.slice e)) (hu:P.underlying u=some du) (hdu:seqT du=true) (hs:sizeT P e=some sz) (hby:bytesT P e=some by_) (hb0:0<by_) (hz:(zeroT P e).map List.length=some sz)
  (h1:LVs fid w A (fun _=>none) false us (flat ys) []) (h2:∀ v,v∈us→v.oneCell'=true) (h3:∀ d,d∈ys→d.cells.length=sz) (h4:us.length=ys.length*sz)
  (h5:∀ w':World,(Builtin.lenOf yv).run P w' = .ok ys.length w') (h6:∀ m,m≤ys.length→∀ w':World,w'.heap=w.heap→(Builtin.firstCells sz m yv).run P w' = .ok (us.take (m*sz)).toArray w')
  (hob:∀ i,ObjOK fid w A ι (ι i) (obAt H i)) (hx:LV fid w A ι true xv dx Ox) (heo:∀ b,b∈Ox→b∈eo) (h:appendD H sz by_ ys dx=some (d,up)) :
  ∃ v w' A' O,(Builtin.append_ #[t,u] ty #[xv,yv]).run P w = .ok v w'∧XR fid w w' A A' ι H eo v d up O:=by
 have hall:us.take (ys.length*sz)=us:=List.take_of_length_le (by omega)
 have hfc:∀ w':World,w'.heap=w.heap→(Builtin.firstCells sz ys.length yv).run P w' = .ok us.toArray w':=by
  intro w' hw;have:=h6 ys.length (Nat.le_refl _) w' hw;rwa [hall] at this
 have nilcase:∀ (ad:Option Addr) (wr:Bool) (up:Option (Nat×Ob)),xv = .slice ad 0 0→ys.length*by_≤140737488355328→(∀ i ob,up=some (i,ob)→ob = .dead∧i<H.length∧alive (obAt H i)=true) →
   ∃ v w' A' O,(Builtin.append_ #[t,u] ty #[xv,yv]).run P w = .ok v w'∧XR fid w w' A A' ι H eo v (.osl wr sz ys) up O:=by
  rintro ad wr up rfl hbd hup
  have hXob:∀ w' A',∀ i ob,up=some (i,ob)→ObjOK fid w' A' ι (ι i) ob∧i<H.length∧alive (obAt H i)=true:=by
   intro w' A' i ob hh
   obtain ⟨rfl,hlt,hal⟩:=hup i ob hh
   exact ⟨trivial,hlt,hal⟩
  by_cases hy:ys=[]
  ·subst hy
   have h0:us=[]:=by simpa using h4
   subst h0
   refine ⟨_,w,A,[],run_append_nothing ht hu hdu hs (h5 w) (hfc w rfl),?_⟩
   exact ⟨Keep.refl _ _ _, .osln _ _ _,hXob _ _,List.nodup_nil,by simp⟩
  ·have hpos:0<0+ys.length:=by have:=List.length_pos_iff.2 hy;omega
   obtain ⟨c,rest,hc1,hc2,hrun⟩:=run_append_grows (ty:=ty) (os:=[]) (base:=ad) (len:=0) (cap:=0) ht hu hdu hs hby hb0 hz (h5 w) hfc
    (by intro w' hw;cases ad<;>simp [Builtin.firstCells,loadCells,loadCellsFrom]) (by simp) h4 hpos (by simpa using hbd)
   simp only [List.nil_append,Nat.zero_add] at hrun hc2 hc1
   refine ⟨_,_,newA A w.heap.size,[w.heap.size],hrun,?_⟩
   have K:Keep w w.drew A A (fun _=>False):=Keep.drew w A _
   have K2:=Keep.alloc w.drew A (.cells ⟨us++rest⟩ e)
   refine ⟨(K.trans K2 (C:=fun _=>False) (fun _ h=> .inl h) (fun _ h=> .inl h)).mono (fun _ h=>h.elim),LV.newRow K h1 h2 h3 rfl hc1 hc2,hXob _ _,by simp,?_⟩
   intro b hb;simp at hb;subst hb;exact .inr (.inr (Nat.le_refl _))
 have rowcase:∀ (b cap:Nat) (wr:Bool) (ds:List D) (vs:List Value) (cs:Array Value) (T:TypeId) (fr:Nat×Nat) (up:Option (Nat×Ob)),xv = .slice (some ⟨b,0,none⟩) ds.length cap →
   w.heap[b]? = some (.cells cs T fr)→okfr cs.size fr→(∀ d,d∈ds→d.cells.length=sz)→LVs fid w A (fun _=>none) false vs (flat ds) []→(∀ v,v∈vs→v.oneCell'=true)→(∀ (k:Nat) (v:Value),vs[k]? = some v→cs[k]? = some v) →
   ds.length≤cap→cap*sz≤cs.size→(wr=true→∀ off,A b off)→(∀ off,vs.length≤off→A b off)→(ds.length+ys.length)*by_≤140737488355328 →
   (∀ i ob,up=some (i,ob)→ob = .dead∧i<H.length∧alive (obAt H i)=true)→(b∈eo∨∃ i,up=some (i, .dead)∧ι i=some (some b)) →
   ∃ v w' A' O,(Builtin.append_ #[t,u] ty #[xv,yv]).run P w = .ok v w'∧XR fid w w' A A' ι H eo v (.osl wr sz (ds++ys)) up O:=by
  rintro b cap wr ds vs cs T fr up rfl hb hf hud hv hv1 hr hc hcs ha hA hbd hup hbo
  have hvl:vs.length=ds.length*sz:=by rw [hv.length_eq,flat_len hud]
  have hXob:∀ w' A',∀ i ob,up=some (i,ob)→ObjOK fid w' A' ι (ι i) ob∧i<H.length∧alive (obAt H i)=true:=by
   intro w' A' i ob hh
   obtain ⟨rfl,hlt,hal⟩:=hup i ob hh
   exact ⟨trivial,hlt,hal⟩
  have hu2:∀ d,d∈ds++ys→d.cells.length=sz:=by
   intro d hd
   rcases List.mem_append.1 hd with hd | hd
   ·exact hud d hd
   ·exact h3 d hd
  have hv2:LVs fid w A (fun _=>none) false (vs++us) (flat (ds++ys)) []:=by rw [flat_app];exact hv.append h1
  have ho2:∀ v,v∈vs++us→v.oneCell'=true:=by
   intro v hv
   rcases List.mem_append.1 hv with hv | hv
   ·exact hv1 v hv
   ·exact h2 v hv
  have hl2:(ds++ys).length=ds.length+ys.length:=by simp
  by_cases hfit:ds.length+ys.length≤cap
  ·have hle:ds.length*sz+us.length≤cs.size:=by
    have:(ds.length+ys.length)*sz≤cap*sz:=Nat.mul_le_mul_right _ hfit
    rw [Nat.add_mul] at this;omega
   have hrun:=run_append_fits (ty:=ty) ht hu hdu hs (h5 w) (hfc w rfl) h4 hb hf hle h2 hfit
   have K:=setRow_lv (fid:=fid) (A:=A) (us:=us) (o:=ds.length*sz) hb hle (fun k _=>hA _ (by omega))
   refine ⟨_,_,A,[b],hrun,?_⟩
   refine ⟨K.mono (by rintro x rfl;rcases hbo with h | ⟨i,h,hi⟩;exact .inl h;exact .inr ⟨i,_,h,hi⟩),?_,hXob _ _,by simp,?_⟩
   ·rw [←hl2]
    refine .osl b cap sz wr _ (vs++us) _ T fr (setRow_heap w b _ _ T fr hb) ?_ hu2 (LVs.keep K (fun _ _ e=>e) hv2.weak (by simp)) ho2 ?_ (by rw [hl2];exact hfit) ?_ ha ?_
    ·have:(⟨cs.toList.take (ds.length*sz)++us++cs.toList.drop (ds.length*sz+us.length)⟩:Array Value).size=cs.size:=by simp;omega
     rw [this];exact hf
    ·intro k v hk
     have h2':(⟨cs.toList.take (ds.length*sz)++us++cs.toList.drop (ds.length*sz+us.length)⟩:Array Value)[k]? = (cs.toList.take (ds.length*sz)++us++cs.toList.drop (ds.length*sz+us.length))[k]?:=by simp
     rw [h2',splice_get cs.toList _ _ (by simpa using hle)]
     rw [List.getElem?_append] at hk
     split at hk
     ·rename_i hk1;rw [if_pos (by omega)];simpa using hr k v hk
     ·rename_i hk1
      rw [if_neg (by omega),if_pos (by
       rcases Nat.lt_or_ge (k-vs.length) us.length with h' | h'
       ·omega
       ·rw [List.getElem?_eq_none h'] at hk;cases hk),←hvl]
      exact hk
    ·have:(⟨cs.toList.take (ds.length*sz)++us++cs.toList.drop (ds.length*sz+us.length)⟩:Array Value).size=cs.size:=by simp;omega
     rw [this];exact hcs
    ·intro off ho;exact hA off (by simp at ho;omega)
   ·intro x hx;simp at hx;subst hx
    rcases hbo with h | h
    ·exact .inl h
    ·exact .inr (.inl h)
  ·have hgt:cap<ds.length+ys.length:=by omega
   have hoc:∀ w',w'.heap=w.heap→(Builtin.firstCells sz ds.length (.slice (some ⟨b,0,none⟩) ds.length cap)).run P w' = .ok vs.toArray w':=by
    intro w' hw
    have:=run_loadCells_world (P:=P) (w:=w) hw (x:=⟨b,0,none⟩) (vs:=vs) (fun k u hk=>by rw [addr_add,Nat.zero_add];exact cell_of hb (hr k u hk))
    rw [hvl] at this
    simpa [Builtin.firstCells] using this
   obtain ⟨c,rest,hc1,hc2,hrun⟩:=run_append_grows (ty:=ty) (os:=vs) (base:=some ⟨b,0,none⟩) (len:=ds.length) (cap:=cap) ht hu hdu hs hby hb0 hz (h5 w) hfc hoc hvl h4 hgt hbd
   refine ⟨_,_,newA A w.heap.size,[w.heap.size],hrun,?_⟩
   have K:Keep w w.drew A A (fun _=>False):=Keep.drew w A _
   have K2:=Keep.alloc w.drew A (.cells ⟨vs++us++rest⟩ e)
   refine ⟨(K.trans K2 (C:=fun _=>False) (fun _ h=> .inl h) (fun _ h=> .inl h)).mono (fun _ h=>h.elim),LV.newRow K hv2 ho2 hu2 hl2 hc1 hc2,hXob _ _,by simp,?_⟩
   intro b hb;simp at hb;subst hb;exact .inr (.inr (Nat.le_refl _))
 unfold appendD at h
 split at h
 ·split at h
  ·rename_i hbd
   simp only [Option.some.injEq,Prod.mk.injEq] at h
   obtain ⟨rfl,rfl⟩:=h
   obtain ⟨ad,e1,_⟩:=hx.inv_sn
   exact nilcase ad true none e1 hbd (by intro i ob hh;cases hh)
  ·cases h
 ·rename_i wr sz' ds
  split at h
  ·rename_i hh
   obtain ⟨rfl,hbd⟩:=hh
   simp only [Option.some.injEq,Prod.mk.injEq] at h
   obtain ⟨rfl,rfl⟩:=h
   cases hx with
   | osln ad =>
    have:=nilcase ad wr none rfl (by simpa using hbd) (by intro i ob hh;cases hh)
    simpa using this
   | osl b cap _ _ _ vs cs T fr hb hf hud hv hv1 hr hc hcs ha hA =>
    exact rowcase b cap wr ds vs cs T fr none rfl hb hf hud hv.weak hv1 hr hc hcs ha hA hbd (by intro i ob hh;cases hh) (.inl (heo b (by simp)))
  ·cases h
 ·rename_i id sz' off len
  obtain ⟨ad,cap,q,e1,e2,_,hi,g0,g1⟩:=hx.inv_rf
  split at h
  ·rename_i wr sz'' ds hH
   split at h
   ·rename_i hh
    obtain ⟨rfl,rfl,rfl,hle,hwr,hbd⟩:=hh
    simp only [Option.some.injEq,Prod.mk.injEq] at h
    obtain ⟨rfl,rfl⟩:=h
    have hup:∀ i ob,(some (id,Ob.dead):Option (Nat×Ob))=some (i,ob)→ob = .dead∧i<H.length∧alive (obAt H i)=true:=by
     intro i ob hh
     simp only [Option.some.injEq,Prod.mk.injEq] at hh
     obtain ⟨rfl,rfl⟩:=hh
     exact ⟨rfl,lt_of_get hH,by rw [obAt_of hH];rfl⟩
    have ho:=hob id
    rw [obAt_of hH,hi] at ho
    rcases ho with ⟨eb,rfl⟩ | ⟨b,eb,cs,T,fr,vs,k1,k2,ku,k4,k5,k6,k7,k8⟩
    ·injection eb with eb
     obtain ⟨hl0,hc0,_⟩:=g0 eb
     subst hl0;subst hc0
     have:=nilcase ad wr (some (id, .dead)) e1 (by simpa using hbd) hup
     simpa using this
    ·injection eb with eb
     obtain ⟨m1,m2,cs',T',fr',m3,m4⟩:=g1 b eb
     rw [k1] at m3
     injection m3 with m3;injection m3 with m3 m5 m6
     subst m3
     have htl:(ds.take len).length=len:=by rw [List.length_take];omega
     rcases m1 with rfl | m1
     ·have hvl:vs.length=ds.length*sz'':=by rw [k4.length_eq,flat_len ku]
      have htv:(vs.take (len*sz'')).length=len*sz'':=by
       rw [List.length_take,hvl]
       have:=Nat.mul_le_mul_right sz'' hle
       omega
      have:=rowcase b cap wr (ds.take len) (vs.take (len*sz'')) cs T fr (some (id, .dead)) (by rw [htl];simpa using e1) k1 k2 (fun d hd=>ku d (List.mem_of_mem_take hd))
       (by rw [←flat_take ku];exact k4.take _) (fun v hv=>k5 v (List.mem_of_mem_take hv)) (fun k v hk=>k6 k v (take_get hk)) (by rw [htl];exact m2) (by simpa using m4) k7
       (by
        intro off ho
        rw [htv] at ho
        rcases hwr with hw | hw
        ·exact k7 hw off
        ·subst hw;exact k8 off (by omega))
       (by rw [htl];exact hbd) hup (.inr ⟨id,rfl,by rw [hi,eb]⟩)
      exact this
     ·have hl0:len=0:=by omega
      subst hl0;subst m1
      have:=nilcase ad wr (some (id, .dead)) e1 (by simpa using hbd) hup
      simpa using this
   ·cases h
  ·cases h
 ·cases h
end
end Lg
namespace Lg
open Go
set_option linter.unusedVariables false
set_option linter.unusedSimpArgs false
set_option linter.unusedSectionVars false
section
variable {P:Program} {num:FuncId→Option Nat} {fid:Nat→FuncId} (hnum:∀ f g,num f=some g→fid g=f)
 {w:World} {A:Av} {ι:Io} {H:List Ob} {eo:List Nat} {a:Act} {E:Env} {own:Nat→List Nat} (hl:∀ t,LV fid w A ι true (a.tmps.getD t undef) (lk E t) (own t))
 (hob:∀ i,ObjOK fid w A ι (ι i) (obAt H i)) {o:Oper} {d:D}
include hnum hl hob
theorem x_append {t u e:TypeId} {du:TypeDesc} {x y:Operand} {sz by_:Nat} {ys:List D} {up:Option (Nat×Ob)} (ho:o.op = .call {callee:= .builtin .append,args:=#[x,y],argTypes:=#[t,u]}) (hsz0:0<sz)
  (ht:P.underlying t=some (.slice e)) (hu:P.underlying u=some du) (hdu:seqT du=true) (hs:sizeT P e=some sz) (hby:bytesT P e=some by_) (hb0:0<by_) (hz:(zeroT P e).map List.length=some sz)
  (hx:okOpd x=true) (hy:okOpd y=true) (h1:appendY H sz (ov E (opd num y))=some ys) (h:appendD H sz by_ ys (ov E (opd num x))=some (d,up)) :
  Does P fid w A ι H (eaten own (eats E (.append sz by_ (opd num x) (opd num y)))) a o d up:=by
 have kx:=lv_opd hnum hl x hx
 have ky:=lv_opd hnum hl y hy
 obtain ⟨us,g1,g2,g3,g4,g5,g6⟩:=appendY_lv (P:=P) hob hsz0 ky h1
 have heo:∀ b,b∈ownX own x→b∈eaten own (eats E (.append sz by_ (opd num x) (opd num y))):=by
  intro b hb
  cases x with
  | tmp t =>
   simp only [ownX] at hb
   simp only [opd,ov,ownX] at kx h
   simp only [eats,opd]
   split
   ·exact hb
   ·rename_i hne
    exfalso
    have hno:noTree (lk E t)=true:=by
     cases hd:lk E t with
     | osl wr sz ds=>exact (hne wr sz ds hd).elim
     | rf=>rfl
     | sn=>rfl
     | _=>rw [hd] at h;simp [appendD] at h
    rw [kx.noTree hno] at hb
    simp at hb
  | _=>simp [ownX] at hb
 obtain ⟨v,w',A',O,hrun,X⟩:=append_does (ty:=o.type) (eo:=eaten own (eats E (.append sz by_ (opd num x) (opd num y)))) hsz0 ht hu hdu hs hby hb0 hz g1 g2 g3 g4 g5 g6 hob kx heo h
 refine ⟨_,v,w',A',O,?_, .inl rfl,X⟩
 simp only [execOp,ho,resolve,invoke,builtin,Sem.run_bind,Sem.run_pure,Result.andThen_ok,List.map_toArray,List.map_cons,List.map_nil,hrun]
omit hnum hl in
theorem copy_does {t e ty:TypeId} {u:TypeId} {sz:Nat} {ys:List D} {us:List Value} {yv xv:Value} {dx:D} {Ox:List Nat} {up:Option (Nat×Ob)} (hsz0:0<sz)
  (ht:P.underlying t=some (.slice e)) (hs:sizeT P e=some sz)
  (h1:LVs fid w A (fun _=>none) false us (flat ys) []) (h2:∀ v,v∈us→v.oneCell'=true) (h3:∀ d,d∈ys→d.cells.length=sz) (h4:us.length=ys.length*sz)
  (h5:∀ w':World,(Builtin.lenOf yv).run P w' = .ok ys.length w') (h6:∀ m,m≤ys.length→∀ w':World,w'.heap=w.heap→(Builtin.firstCells sz m yv).run P w' = .ok (us.take (m*sz)).toArray w')
  (hx:LV fid w A ι true xv dx Ox) (h:copyD H sz ys dx=some (d,up)) :
  ∃ v w',(Builtin.copy_ #[t,u] ty #[xv,yv]).run P w = .ok v w'∧XR fid w w' A A ι H eo v d up []:=by
 have key:∀ (ad:Option Addr) (len cap:Nat) (w':World),(match ad with | some a=>storeCells a (us.take (Nat.min ys.length len*sz)) | none=>pure ()).run P w = .ok () w' →
   (Builtin.copy_ #[t,u] ty #[.slice ad len cap,yv]).run P w = .ok (.int .i64 (Nat.min ys.length len:Nat)) w':=by
  intro ad len cap w' hst
  unfold Builtin.copy_
  simp only [List.getElem?_toArray,List.getElem?_cons_zero,List.getElem?_cons_succ,Sem.run_bind,run_underlying ht,run_sizeT hs,Result.andThen_ok,Sem.run_pure,h5 w,h6 (Nat.min ys.length len) (Nat.min_le_left _ _) w rfl]
  cases ad with
  | none=>simp only [Sem.run_pure] at hst ⊢;injection hst with _ hst;subst hst;rfl
  | some a=>simp only [Sem.run_bind,hst,Result.andThen_ok,Sem.run_pure];rfl
 unfold copyD at h
 split at h
 ·simp only [Option.some.injEq,Prod.mk.injEq] at h
  obtain ⟨rfl,rfl⟩:=h
  obtain ⟨ad,e1,_⟩:=hx.inv_sn
  subst e1
  refine ⟨_,w,key ad 0 0 w ?_,?_⟩
  ·cases ad<;>simp [storeCells]
  ·have:(Nat.min ys.length 0:Nat)=0:=Nat.min_zero _
   rw [this]
   exact XR.val (.sc _ rfl)
 ·rename_i id sz' off len
  obtain ⟨ad,cap,q,e1,e2,_,hi,g0,g1⟩:=hx.inv_rf
  subst e1
  split at h
  ·rename_i sz'' ds hH
   split at h
   ·rename_i hh
    obtain ⟨rfl,rfl,hle⟩:=hh
    simp only [Option.some.injEq,Prod.mk.injEq] at h
    obtain ⟨rfl,rfl⟩:=h
    have hobi:=hob id
    rw [obAt_of hH,hi] at hobi
    by_cases hm:min ys.length len=0
    ·refine ⟨_,w,key ad len cap w ?_,?_⟩
     ·have:Nat.min ys.length len=0:=hm
      rw [this];cases ad<;>simp [storeCells]
     ·refine ⟨Keep.refl _ _ _, .sc _ rfl,?_,List.nodup_nil,by simp⟩
      intro i ob hu
      simp only [Option.some.injEq,Prod.mk.injEq] at hu
      obtain ⟨rfl,rfl⟩:=hu
      refine ⟨?_,lt_of_get hH,by rw [obAt_of hH];rfl⟩
      rw [hm];simp only [List.take_zero,List.nil_append,Nat.add_zero,List.take_append_drop]
      rw [hi];exact hobi
    ·rcases hobi with ⟨eb,rfl⟩ | ⟨b,eb,cs,T,fr,vs,k1,k2,ku,k4,k5,k6,k7,k8⟩
     ·simp at hle;exfalso;omega
     ·injection eb with eb
      obtain ⟨m1,m2,cs',T',fr',m3,m4⟩:=g1 b eb
      rw [k1] at m3
      injection m3 with m3;injection m3 with m3 m5 m6
      subst m3
      rcases m1 with rfl | m1
      ·have hvl:vs.length=ds.length*sz'':=by rw [k4.length_eq,flat_len ku]
       have hcs:=prefix_len k6
       have hus:(us.take (min ys.length len*sz'')).length=min ys.length len*sz'':=by
        rw [List.length_take,h4]
        have:=Nat.mul_le_mul_right sz'' (Nat.min_le_left ys.length len)
        omega
       have hlev:off*sz''+(us.take (min ys.length len*sz'')).length≤vs.length:=by
        rw [hus,hvl,←Nat.add_mul]
        exact Nat.mul_le_mul_right _ (by omega)
       have hlec:off*sz''+(us.take (min ys.length len*sz'')).length≤cs.size:=by omega
       have hst:=run_storeCells_okfr P b (off*sz'') T fr (us.take (min ys.length len*sz'')) 0 cs w k1 k2 (by simpa using hlec) (fun v hv=>h2 v (List.mem_of_mem_take hv))
       have K:=setRow_lv (fid:=fid) (A:=A) (us:=us.take (min ys.length len*sz'')) (o:=off*sz'') k1 hlec (fun k _=>k7 rfl _)
       simp only [Nat.add_zero] at hst
       refine ⟨_,_,key _ len cap _ hst,?_⟩
       refine ⟨K.mono (by rintro x rfl;exact .inr ⟨id,_,rfl,by rw [hi,eb]⟩), .sc _ rfl,?_,List.nodup_nil,by simp⟩
       intro i ob hu
       simp only [Option.some.injEq,Prod.mk.injEq] at hu
       obtain ⟨rfl,rfl⟩:=hu
       refine ⟨?_,lt_of_get hH,by rw [obAt_of hH];rfl⟩
       have hfl:flat (ds.take off++(ys.take (min ys.length len)++ds.drop (off+min ys.length len)))=(flat ds).take (off*sz'')++((flat ys).take (min ys.length len*sz'')++(flat ds).drop (off*sz''+((flat ys).take (min ys.length len*sz'')).length)):=by
        have hfy:((flat ys).take (min ys.length len*sz'')).length=min ys.length len*sz'':=by
         rw [List.length_take,flat_len h3]
         have:=Nat.mul_le_mul_right sz'' (Nat.min_le_left ys.length len)
         omega
        rw [flat_app,flat_app,hfy,←flat_take ku,←flat_take h3,←Nat.add_mul,flat_drop ku]
       have hlv':LVs fid w A (fun _=>none) false (vs.take (off*sz'')++us.take (min ys.length len*sz'')++vs.drop (off*sz''+(us.take (min ys.length len*sz'')).length)) (flat (ds.take off++(ys.take (min ys.length len)++ds.drop (off+min ys.length len)))) []:=by
        rw [hfl];exact k4.splice (h1.take _)
       rw [hi,eb]
       refine .inr ⟨b,rfl,_,T,fr,_,setRow_heap w b _ _ T fr k1,?_,?_,LVs.keep K (fun _ _ e=>e) hlv' (by simp),?_,?_,fun _=>k7 rfl,fun off' _=>k7 rfl off'⟩
       ·have:(⟨cs.toList.take (off*sz'')++us.take (min ys.length len*sz'')++cs.toList.drop (off*sz''+(us.take (min ys.length len*sz'')).length)⟩:Array Value).size=cs.size:=by
         have:=splice_size cs.toList (us.take (min ys.length len*sz'')) (off*sz'') (by simpa using hlec)
         simpa using this
        rw [this];exact k2
       ·intro x hx
        rcases List.mem_append.1 hx with hx | hx
        ·exact ku x (List.mem_of_mem_take hx)
        ·rcases List.mem_append.1 hx with hx | hx
         ·exact h3 x (List.mem_of_mem_take hx)
         ·exact ku x (List.mem_of_mem_drop hx)
       ·intro x hx
        simp only [List.mem_append] at hx
        rcases hx with (hx | hx) | hx
        ·exact k5 x (List.mem_of_mem_take hx)
        ·exact h2 x (List.mem_of_mem_take hx)
        ·exact k5 x (List.mem_of_mem_drop hx)
       ·intro k x hk
        rw [splice_get vs _ _ hlev] at hk
        have h2':(⟨cs.toList.take (off*sz'')++us.take (min ys.length len*sz'')++cs.toList.drop (off*sz''+(us.take (min ys.length len*sz'')).length)⟩:Array Value)[k]? = (cs.toList.take (off*sz'')++us.take (min ys.length len*sz'')++cs.toList.drop (off*sz''+(us.take (min ys.length len*sz'')).length))[k]?:=by simp
        rw [h2',splice_get cs.toList _ _ (by simpa using hlec)]
        split at hk
        ·rename_i hk1;rw [if_pos hk1];simpa using k6 k x hk
        ·rename_i hk1
         rw [if_neg hk1]
         split at hk
         ·rename_i hk2;rw [if_pos hk2];exact hk
         ·rename_i hk2;rw [if_neg hk2];simpa using k6 k x hk
      ·exfalso;omega
   ·cases h
  ·cases h
 ·cases h
theorem x_copy {t u e:TypeId} {x y:Operand} {sz:Nat} {ys:List D} {up:Option (Nat×Ob)} (ho:o.op = .call {callee:= .builtin .copy,args:=#[x,y],argTypes:=#[t,u]}) (hsz0:0<sz)
  (ht:P.underlying t=some (.slice e)) (hs:sizeT P e=some sz)
  (hx:okOpd x=true) (hy:okOpd y=true) (h1:appendY H sz (ov E (opd num y))=some ys) (h:copyD H sz ys (ov E (opd num x))=some (d,up)) :
  Does P fid w A ι H eo a o d up:=by
 obtain ⟨us,g1,g2,g3,g4,g5,g6⟩:=appendY_lv (P:=P) hob hsz0 (lv_opd hnum hl y hy) h1
 obtain ⟨v,w',hrun,X⟩:=copy_does (ty:=o.type) (u:=u) (eo:=eo) hob hsz0 ht hs g1 g2 g3 g4 g5 g6 (lv_opd hnum hl x hx) h
 refine ⟨_,v,w',A,[],?_, .inl rfl,X⟩
 simp only [execOp,ho,resolve,invoke,builtin,Sem.run_bind,Sem.run_pure,Result.andThen_ok,List.map_toArray,List.map_cons,List.map_nil,hrun]
end
end Lg
namespace Lg
open Go
set_option linter.unusedVariables false
set_option linter.unusedSimpArgs false
set_option linter.unusedSectionVars false
theorem rep_get {α:Type} (l:List α) (hl:0<l.length):∀ (n k:Nat),(List.replicate n l).flatten[k]? = if k<n*l.length then l[k % l.length]? else none
 | 0,k=>by simp
 | n+1,k=>by
  rw [List.replicate_succ,List.flatten_cons,List.getElem?_append]
  split
  ·rename_i h
   rw [if_pos (by rw [Nat.add_mul];omega),Nat.mod_eq_of_lt h]
  ·rename_i h
   rw [rep_get l hl n,Nat.mod_eq_sub_mod (Nat.le_of_not_lt h),Nat.add_mul]
   have e:(k-l.length<n*l.length)↔(k<n*l.length+1*l.length):=by omega
   simp only [e]
theorem madeCells_rep (zs:Array Value) (n:Nat) (h:0<zs.size):(madeCells zs (n*zs.size)).toList=(List.replicate n zs.toList).flatten:=by
 apply List.ext_getElem?
 intro k
 rw [rep_get zs.toList (by simpa using h)]
 unfold madeCells
 simp only [Array.toList_map,Array.toList_range,List.getElem?_map,Array.length_toList]
 split
 ·rename_i hk
  rw [List.getElem?_range hk]
  have hm:k % zs.size<zs.size:=Nat.mod_lt _ h
  simp [getElem!_pos,hm]
 ·rename_i hk
  rw [List.getElem?_eq_none (by simpa using hk)];rfl
theorem flat_replicate (n:Nat) (z:List D) (hz:z.all isCellD=true):flat (List.replicate n (elemOf z))=(List.replicate n z).flatten∧(elemOf z).cells=z:=by
 have:(elemOf z).cells=z:=by
  unfold elemOf
  split
  ·rename_i d
   simp at hz
   cases d<;>simp [isCellD] at hz<;>rfl
  ·rfl
 refine ⟨?_,this⟩
 induction n with
 | zero=>rfl
 | succ n ih=>rw [List.replicate_succ,flat_cons,ih,this,List.replicate_succ,List.flatten_cons]
theorem LVs.reps {fid:Nat→FuncId} {w:World} {A:Av} {ι:Io} {r:Bool} {vs:List Value} {ds:List D} (h:LVs fid w A ι r vs ds []):∀ n,LVs fid w A ι r (List.replicate n vs).flatten (List.replicate n ds).flatten []
 | 0=> .nil
 | n+1=>by rw [List.replicate_succ,List.replicate_succ,List.flatten_cons,List.flatten_cons];exact h.append (LVs.reps h n)
theorem fillD_build (sz:Nat):∀ (ps:List (Nat×D)) (cs:List D),fillD sz cs ps=buildD cs (ps.map fun p=>(p.1*sz,sz,p.2))
 | [],cs=>rfl
 | (i,v) :: r,cs=>by
  simp only [fillD,buildD,List.map_cons]
  split
  ·congr 1;funext cs';exact fillD_build sz r cs'
  ·rfl
theorem putCells_len {cs vs ds:List D} {off:Nat} (h:putCells cs off vs=some ds):ds.length=cs.length:=by
 obtain ⟨h1,rfl⟩:=putCells_some h
 simp;omega
theorem fillD_len {sz:Nat}:∀ {ps:List (Nat×D)} {cs ds:List D},fillD sz cs ps=some ds→ds.length=cs.length
 | [],cs,ds,h=>by simp [fillD] at h;rw [h]
 | (i,v) :: r,cs,ds,h=>by
  simp only [fillD] at h
  split at h
  ·obtain ⟨cs',h1,h2⟩:=Option.bind_eq_some_iff.1 h
   rw [fillD_len h2,putCells_len h1]
  ·cases h
theorem chunks_spec (sz:Nat) (hsz:0<sz):∀ (n:Nat) (cs:List D),cs.length=n*sz→cs.all isCellD=true →
  flat (chunks (sz != 1) sz n cs)=cs∧(chunks (sz != 1) sz n cs).length=n∧∀ d,d∈chunks (sz != 1) sz n cs→d.cells.length=sz
 | 0,cs,h,_=>by
  have:cs=[]:=by simpa using h
  subst this;exact ⟨rfl,rfl,by simp [chunks]⟩
 | n+1,cs,h,hc=>by
  have hle:sz≤cs.length:=by rw [h,Nat.add_mul];omega
  obtain ⟨h1,h2,h3⟩:=chunks_spec sz hsz n (cs.drop sz) (by rw [List.length_drop,h,Nat.add_mul];omega) (by
   rw [List.all_eq_true] at hc ⊢;exact fun x hx=>hc x (List.mem_of_mem_drop hx))
  have key:(if (sz != 1)=true then D.agg (cs.take sz) else cs.headD .un).cells=cs.take sz:=by
   by_cases e:sz=1
   ·subst e
    cases cs with
    | nil=>simp at hle
    | cons c cs =>
     simp only [List.all_cons,Bool.and_eq_true] at hc
     have:=hc.1
     cases c<;>simp [isCellD] at this<;>rfl
   ·simp [e,D.cells]
  refine ⟨?_,?_,?_⟩
  ·simp only [chunks,flat_cons,key,h1,List.take_append_drop]
  ·simp only [chunks,List.length_cons,h2]
  ·intro d hd
   simp only [chunks,List.mem_cons] at hd
   rcases hd with hd | hd
   ·rw [hd,key,List.length_take];omega
   ·exact h3 d hd
section
variable {P:Program} {num:FuncId→Option Nat} {fid:Nat→FuncId} (hnum:∀ f g,num f=some g→fid g=f)
 {w:World} {A:Av} {ι:Io} {H:List Ob} {eo:List Nat} {a:Act} {E:Env} {own:Nat→List Nat} (hl:∀ t,LV fid w A ι true (a.tmps.getD t undef) (lk E t) (own t))
 (hob:∀ i,ObjOK fid w A ι (ι i) (obAt H i)) {o:Oper} {d:D}
include hnum hl
theorem x_mksl {t e:TypeId} {x:Nat} {sz by_ n:Nat} {z:List D} (ho:o.op = .makeSlice t (.tmp x) (.tmp x)) (ht:P.underlying t=some (.slice e)) (hs:sizeT P e=some sz) (hby:bytesT P e=some by_) (hz:zeroT P e=some z)
  (h0:0<sz) (hb0:0<by_) (hj:natOf (lk E x)=some n) (hbd:n*by_≤140737488355328) (hro:isROs z=true) (hzl:z.length=sz) (hzc:z.all isCellD=true) :
  Does P fid w A ι H eo a o (.osl true sz (List.replicate n (elemOf z))) none:=by
 obtain ⟨k,hk⟩:=natOf_inv (hl x) hj
 obtain ⟨ti,zv,hti,hzv,hlz,h1⟩:=lv_zero (fid:=fid) (w:=w) (A:=A) (ι:=ι) hnum hz (r:=true)
 obtain ⟨ti2,hti2,hsz⟩:=Option.map_eq_some_iff.1 hs
 obtain ⟨ti3,hti3,hbb⟩:=Option.map_eq_some_iff.1 hby
 rw [hti] at hti2 hti3
 injection hti2 with e1;subst e1
 injection hti3 with e1;subst e1
 have hzs:zv.cells.size=sz:=by rw [←Array.length_toList,hlz.length_eq,hzl]
 have hn47:n≤140737488355328:=Nat.le_trans (Nat.le_mul_of_pos_right n hb0) hbd
 have hbi:(ti.bytes:Int)*(n:Int)≤281474976710656:=by
  rw [hbb,Int.mul_comm]
  have:((n*by_:Nat):Int)≤140737488355328:=by omega
  rw [Int.natCast_mul] at this;omega
 have hrun:=run_make (P:=P) w t e ti zv ht hti hzv k k n n (by omega) (Int.le_refl _) hbi (by omega)
 simp only [Int.toNat_natCast,hsz] at hrun
 have hmk:(madeCells zv.cells (n*sz))=⟨(List.replicate n zv.cells.toList).flatten++[]⟩:=by
  apply Array.ext'
  have:=madeCells_rep zv.cells n (by omega)
  rw [hzs] at this
  simpa using this
 rw [hmk] at hrun
 have hfr:=flat_replicate n z hzc
 have hlv:LVs fid w A (fun _=>none) false (List.replicate n zv.cells.toList).flatten (flat (List.replicate n (elemOf z))) []:=by
  rw [hfr.1];exact ((hlz.ro hro).weak (ι':=fun _=>none)).reps n
 have h1':∀ v,v∈(List.replicate n zv.cells.toList).flatten→v.oneCell'=true:=by
  intro v hv
  obtain ⟨l,hl1,hl2⟩:=List.mem_flatten.1 hv
  have:=(List.mem_replicate.1 hl1).2
  subst this
  exact h1 v hl2
 have hln:((List.replicate n zv.cells.toList).flatten++[]).length=n*sz:=by
  simp [List.length_flatten,hzs]
 refine ⟨_,_,_,newA A w.heap.size,[w.heap.size],?_, .inl rfl,XR.new (Keep.alloc w A _) (LV.newRow (e:=e) (Keep.refl w A _) hlv h1' (fun d hd=>?_) (by simp) (Nat.le_refl n) hln) (by simp) (by simp)⟩
 ·simp only [execOp,ho]
  refine run_v ?_
  have hk':a.eval (.tmp x) = .int k n:=hk
  rw [hk']
  exact hrun
 ·have:=(List.mem_replicate.1 hd).2
  subst this
  rw [hfr.2,hzl]
end
end Lg
namespace Lg
open Go
set_option linter.unusedVariables false
set_option linter.unusedSimpArgs false
set_option linter.unusedSectionVars false
theorem u8OfD_inv {d:D} {b:UInt8} (h:u8OfD d=some b):∃ n:Int,d = .sc (.int .u8 n)∧UInt8.ofNat n.toNat=b:=by
 unfold u8OfD at h
 split at h
 ·rename_i n
  split at h
  ·injection h with h;exact ⟨n,rfl,h⟩
  ·cases h
 ·cases h
theorem bytesOfD_inv {fid:Nat→FuncId} {w:World} {A:Av} {ι:Io} {r:Bool}:∀ {ds:List D} {l:List UInt8} {vs:List Value},bytesOfD ds=some l→LVs fid w A ι r vs ds [] →
  ∃ ns:List Int,vs=ns.map (Value.int .u8)∧ns.map (fun n=>UInt8.ofNat n.toNat)=l∧flat ds=ds
 | [],l,vs,h,hv=>by
  simp [bytesOfD] at h;subst h
  exact ⟨[],by simpa using hv.nil_of,rfl,rfl⟩
 | d :: ds,l,vs,h,hv=>by
  simp only [bytesOfD] at h
  obtain ⟨b,hb,h⟩:=Option.bind_eq_some_iff.1 h
  obtain ⟨l',hl',rfl⟩:=Option.map_eq_some_iff.1 h
  obtain ⟨n,rfl,hn⟩:=u8OfD_inv hb
  cases vs with
  | nil=>cases hv
  | cons v vs =>
   obtain ⟨ns,e1,e2,e3⟩:=bytesOfD_inv hl' hv.uncons.2
   have e0:=hv.uncons.1.inv_int.1
   exact ⟨n :: ns,by rw [e0,e1];rfl,by simp [hn,e2],by rw [flat_cons,e3];rfl⟩
theorem bytesOfD_flat:∀ {ds:List D} {l:List UInt8},bytesOfD ds=some l→flat ds=ds
 | [],l,h=>rfl
 | d :: ds,l,h=>by
  simp only [bytesOfD] at h
  obtain ⟨b,hb,h⟩:=Option.bind_eq_some_iff.1 h
  obtain ⟨l',hl',rfl⟩:=Option.map_eq_some_iff.1 h
  obtain ⟨n,rfl,hn⟩:=u8OfD_inv hb
  rw [flat_cons,bytesOfD_flat hl'];rfl
section
variable {P:Program} {num:FuncId→Option Nat} {fid:Nat→FuncId} (hnum:∀ f g,num f=some g→fid g=f)
 {w:World} {A:Av} {ι:Io} {H:List Ob} {eo:List Nat} {a:Act} {E:Env} {own:Nat→List Nat} (hl:∀ t,LV fid w A ι true (a.tmps.getD t undef) (lk E t) (own t))
 (hob:∀ i,ObjOK fid w A ι (ι i) (obAt H i)) {o:Oper} {d:D}
include hnum hl hob
theorem x_b2s {s t e:TypeId} {x:Operand} {sz:Nat} {ds:List D} {l:List UInt8} (ho:o.op = .convert s t x) (h1:P.underlying s=some (.slice e)) (h2:P.underlying t=some .string) (h3:P.underlying e=some (.int .u8)) (hx:okOpd x=true)
  (hs:slD H (ov E (opd num x))=some (sz,ds)) (h:bytesOfD ds=some l):Pure1 P fid w A ι a o (.sc (.string ⟨⟨l⟩⟩)):=by
 obtain ⟨ad,cap,vs,e1,hv,hv1,hu,hr⟩:=slD_lv hob (lv_opd hnum hl x hx) hs
 rw [bytesOfD_flat h] at hv
 obtain ⟨ns,rfl,rfl,_⟩:=bytesOfD_inv h hv
 have hlen:=hv.length_eq
 refine ⟨_,?_, .sc _ rfl⟩
 simp only [execOp,ho]
 refine run_v ?_
 rw [e1,run_convert_bytes_string w s t e ad _ cap h1 h3 h2]
 cases ad with
 | none =>
  have:ns=[]:=by
   cases ns with
   | nil=>rfl
   | cons n ns=>obtain ⟨x,e,_⟩:=hr 0 _ rfl;cases e
  subst this
  rfl
 | some ad =>
  have:=run_loadCells_list (P:=P) w ad (ns.map (Value.int .u8)) (fun j v hj=>by obtain ⟨x',e,hx⟩:=hr j v hj;injection e with e;subst e;exact hx)
  rw [hlen] at this
  rw [run_bytesToString w ad ds.length cap ns this,foldl_push_bytes]
  congr 2
  apply ByteArray.ext
  apply Array.ext'
  simp [ByteArray.empty,ByteArray.emptyWithCapacity]
  rfl
omit hob in
theorem x_s2b {s t e:TypeId} {x:Operand} {str:ByteArray} (ho:o.op = .convert s t x) (h1:P.underlying s=some .string) (h2:P.underlying t=some (.slice e)) (h3:P.underlying e=some (.int .u8)) (hx:okOpd x=true)
  (hs:ov E (opd num x) = .sc (.string str)):Does P fid w A ι H eo a o (.osl true 1 (str.data.toList.map fun b=> .sc (.int .u8 b.toNat))) none:=by
 have kx:=lv_opd hnum hl x hx
 rw [hs] at kx
 have e1:=kx.inv_str.1
 have hrun:=Lib.run_convert_string_bytes (P:=P) w s t e str h1 h2 h3
 have hcap:str.size≤grownCap w str.size 0 e:=by
  have:grownCap w str.size 0 e=str.size+(w.tape w.drawn (.appendCap str.size 0 e)) % (2 ^ 63-str.size):=rfl
  omega
 have hsz:(Lib.bytesCells w e str).size=grownCap w str.size 0 e:=by
  unfold Lib.bytesCells
  simp only [Array.size_append,Array.size_map,Array.size_replicate]
  have:str.data.size=str.size:=rfl
  omega
 have K:Keep w (Lib.bytesWorld w e str) A (newA A w.heap.size) (fun _=>False):=by
  refine ⟨rfl,rfl,rfl,by rw [Lib.bytesWorld_size];omega,fun b _ hb=>Lib.bytesWorld_at_old w e str b hb,?_,?_,?_,fun b off _ _ h=> .inl h⟩
  ·intro b off v _ h
   rw [Lib.bytesWorld_old w e str _ (World.block_lt_of_cell? w ⟨b,off,none⟩ h)];exact h
  ·intro b cs T fr h
   exact ⟨cs,fr,by rw [Lib.bytesWorld_at_old w e str b (lt_of_heap h)];exact h,rfl⟩
  ·rintro b off (h | h)
   ·exact .inl h
   ·exact .inr (by rw [Lib.bytesWorld_size];omega)
 have hfl:flat (str.data.toList.map fun b=>D.sc (.int .u8 b.toNat))=str.data.toList.map fun b=>D.sc (.int .u8 b.toNat):=by
  induction str.data.toList with
  | nil=>rfl
  | cons b l ih=>simp only [List.map_cons,flat_cons,D.cells,ih];rfl
 have hlv:LV fid (Lib.bytesWorld w e str) (newA A w.heap.size) ι true (.slice (some ⟨w.heap.size,0,none⟩) str.size (grownCap w str.size 0 e)) (.osl true 1 (str.data.toList.map fun b=> .sc (.int .u8 b.toNat))) [w.heap.size]:=by
  have hln:(str.data.toList.map fun b=>D.sc (.int .u8 b.toNat)).length=str.size:=by simp
  rw [←hln]
  refine .osl w.heap.size _ 1 true _ (str.data.toList.map fun b=> .int .u8 b.toNat) _ e _ (Lib.bytesWorld_at_new w e str) (.inr (Nat.le_refl _)) (fun d hd=>?_) ?_ (fun v hv=>?_) (fun k v hk=>?_) (by rw [hln];exact hcap) (by rw [hln,hsz];omega) (fun _ _=> .inr rfl) (fun _ _=> .inr rfl)
  ·obtain ⟨b,_,rfl⟩:=List.mem_map.1 hd;rfl
  ·rw [hfl]
   induction str.data.toList with
   | nil=>exact .nil
   | cons b l ih=>exact LVs.cons' (.sc _ rfl) ih
  ·obtain ⟨b,_,rfl⟩:=List.mem_map.1 hv;rfl
  ·unfold Lib.bytesCells
   rw [Array.getElem?_append]
   have hlt:k<str.data.size:=by
    rcases Nat.lt_or_ge k str.data.size with h' | h'
    ·exact h'
    ·rw [List.getElem?_eq_none (by simpa using h')] at hk;cases hk
   rw [if_pos (by simpa using hlt)]
   simpa using hk
 refine ⟨_,_,_,_,_,?_, .inl rfl,XR.new K hlv (by simp) (by simp)⟩
 simp only [execOp,ho]
 refine run_v ?_
 rw [e1]
 exact hrun
theorem x_cvb {t e:TypeId} {x:Operand} {id sz off len:Nat} {wr:Bool} {sz':Nat} {ds:List D} (ho:o.op = .convert t t x) (h1:P.underlying t=some (.slice e)) (h2:P.underlying e=some (.int .u8)) (hx:okOpd x=true)
  (hs:ov E (opd num x) = .rf id sz off len) (hH:H[id]? = some (.ow wr sz' ds)) (hlen:0<len):Does P fid w A ι H eo a o (.rf id sz off len) (some (id, .ow wr sz' ds)):=by
 have kx:=lv_opd hnum hl x hx
 rw [hs] at kx
 obtain ⟨ad,cap,q,e1,e2,_,hi,g0,g1⟩:=kx.inv_rf
 have hobi:=hob id
 rw [obAt_of hH,hi] at hobi
 rcases hobi with ⟨eb,rfl⟩ | ⟨b,eb,cs,T,fr,vs,k1,k2,ku,k4,k5,k6,k7,k8⟩
 ·injection eb with eb
  have:=(g0 eb).1;omega
 ·injection eb with eb
  obtain ⟨m1,m2,cs',T',fr',m3,m4⟩:=g1 b eb
  rcases m1 with rfl | m1
  ·
   let fr2:Nat×Nat:=if fr.1 == fr.2 then (cs.size,cs.size+1) else (min fr.1 cs.size,max fr.2 (cs.size+1))
   let w':World:=w.freeze ⟨b,cs.size,none⟩ 1
   have hw':∀ c,w'.heap[c]? = if c=b then some (.cells cs T fr2) else w.heap[c]?:=by
    intro c
    show (w.heap.modify b _)[c]? = _
    rw [Array.getElem?_modify]
    by_cases hc:c=b
    ·subst hc;simp [k1,fr2]
    ·rw [if_neg (by omega),if_neg hc]
   have hwb:w'.heap[b]? = some (.cells cs T fr2):=by rw [hw',if_pos rfl]
   have hok:okfr cs.size fr2:=by
    by_cases he:fr.1=fr.2
    ·have:fr2=(cs.size,cs.size+1):=by show (if _ then _ else _)=_;rw [if_pos (by simpa using he)]
     rw [this];exact .inr (Nat.le_refl _)
    ·have h3:cs.size≤fr.1:=by
      rcases k2 with h | h
      ·exact (he h).elim
      ·exact h
     have:fr2=(min fr.1 cs.size,max fr.2 (cs.size+1)):=by show (if _ then _ else _)=_;rw [if_neg (by simpa using he)]
     rw [this]
     exact .inr (by show cs.size≤min fr.1 cs.size;omega)
   have hcell:∀ c off,w'.cell? ⟨c,off,none⟩=w.cell? ⟨c,off,none⟩:=by
    intro c off
    by_cases hc:c=b
    ·subst hc;simp [World.cell?,hwb,k1]
    ·exact cell_of_heap (by rw [hw',if_neg hc]) off
   have hsz:w'.heap.size=w.heap.size:=by show (w.heap.modify b _).size=_;simp
   have K:Keep w w' A A (fun c=>c=b):=by
    refine ⟨rfl,rfl,rfl,by rw [hsz];exact Nat.le_refl _,fun c hc _=>by rw [hw',if_neg hc],fun c off v _ h=>by rw [hcell];exact h,?_,fun _ _ h=> .inl h,fun _ _ _ _ h=>h⟩
    intro c cs2 T2 fr3 h
    by_cases hc:c=b
    ·subst hc
     rw [k1] at h
     injection h with h;injection h with h1 h2 h3
     subst h1;subst h2
     exact ⟨cs,fr2,hwb,rfl⟩
    ·exact ⟨cs2,fr3,by rw [hw',if_neg hc];exact h,rfl⟩
   have hrun:(convert t t (.slice (some ⟨b,off*sz,none⟩) len cap)).run P w = .ok (.slice (some ⟨b,off*sz,none⟩) len cap) w':=by
    have hsh:w.shape? b=some (T,cs.size):=by simp [World.shape?,k1]
    simp [convert,run_underlying h1,run_underlying h2,markStringish,hsh]
    rfl
   refine ⟨_, .slice (some ⟨b,off*sz,none⟩) len cap,w',A,[],?_, .inl rfl,K.mono (by rintro c rfl;exact .inr ⟨id,_,rfl,by rw [hi,eb]⟩),?_,?_,List.nodup_nil,by simp⟩
   ·simp only [execOp,ho]
    refine run_v ?_
    rw [e1]
    exact hrun
   ·rw [←hs]
    have:=LV.keep (ι':=ι) K (fun _ _ e=>e) kx (by
     have:ownX own x=[]:=by rw [e2]
     rw [this];simp)
    rw [e2,e1] at this
    rw [hs];exact this
   ·intro i ob hu
    simp only [Option.some.injEq,Prod.mk.injEq] at hu
    obtain ⟨rfl,rfl⟩:=hu
    refine ⟨?_,lt_of_get hH,by rw [obAt_of hH];rfl⟩
    rw [hi,eb]
    exact .inr ⟨b,rfl,cs,T,fr2,vs,hwb,hok,ku,LVs.keep K (fun _ _ e=>e) k4 (by simp),k5,k6,k7,k8⟩
  ·omega
end
end Lg
namespace Lg
open Go
set_option linter.unusedVariables false
set_option linter.unusedSimpArgs false
set_option linter.unusedSectionVars false
theorem eqLeaves_app:∀ {ks ls:List Nat} {as bs:List D} {b:Bool},eqLeaves (ks++ls) as bs=some b →
  ∃ x y,eqLeaves ks (as.take ks.length) (bs.take ks.length)=some x∧eqLeaves ls (as.drop ks.length) (bs.drop ks.length)=some y∧b=(x && y)
 | [],ls,as,bs,b,h=>⟨true,b,rfl,h,by simp⟩
 | k :: ks,ls,[],bs,b,h=>by simp [eqLeaves] at h
 | k :: ks,ls,_ :: _,[],b,h=>by simp [eqLeaves] at h
 | k :: ks,ls,a :: as,c :: bs,b,h=>by
  simp only [List.cons_append,eqLeaves] at h
  obtain ⟨z,h1,h⟩:=Option.bind_eq_some_iff.1 h
  obtain ⟨b',h2,rfl⟩:=Option.map_eq_some_iff.1 h
  obtain ⟨x,y,e1,e2,rfl⟩:=eqLeaves_app h2
  exact ⟨z && x,y,by simp [eqLeaves,h1,e1],by simpa using e2,by simp [Bool.and_assoc]⟩
theorem eqLeaves_len:∀ {ks:List Nat} {as bs:List D} {b:Bool},eqLeaves ks as bs=some b→as.length=ks.length∧bs.length=ks.length
 | [],[],[],b,h=>⟨rfl,rfl⟩
 | [],[],_ :: _,b,h=>by simp [eqLeaves] at h
 | [],_ :: _,_,b,h=>by simp [eqLeaves] at h
 | k :: ks,[],bs,b,h=>by simp [eqLeaves] at h
 | k :: ks,_ :: _,[],b,h=>by simp [eqLeaves] at h
 | k :: ks,a :: as,c :: bs,b,h=>by
  simp only [eqLeaves] at h
  obtain ⟨z,h1,h⟩:=Option.bind_eq_some_iff.1 h
  obtain ⟨b',h2,rfl⟩:=Option.map_eq_some_iff.1 h
  obtain ⟨e1,e2⟩:=eqLeaves_len h2
  simp [e1,e2]
section
variable {P:Program}
def Op.eqArr (d:Nat) (xs ys:Array Value) (e:TypeId) (n:Nat):List Nat→Sem Bool
 | []=>pure true
 | i :: is=>do
  let a ←Go.part e xs (i*n)
  let b ←Go.part e ys (i*n)
  let r ←Go.Op.equalIn d e a b
  if (!r)=true then pure false else Op.eqArr d xs ys e n is
theorem run_equalIn_array (w:World) (d:Nat) (t e:TypeId) (len n:Nat) (xs ys:Array Value) (ht:P.underlying t=some (.array len e)) (hs:sizeT P e=some n) :
  (Go.Op.equalIn (d+1) t (.agg xs) (.agg ys)).run P w=(Op.eqArr d xs ys e n (List.range len)).run P w:=by
 simp only [Go.Op.equalIn,Sem.run_bind,run_underlying ht,Result.andThen_ok,run_sizeT hs,Std.Legacy.Range.forIn_eq_forIn_range',Std.Legacy.Range.size,Nat.sub_zero,Nat.add_sub_cancel,Nat.div_one]
 rw [List.range_eq_range']
 generalize List.range' 0 len=is
 induction is generalizing w with
 | nil=>simp [Op.eqArr]
 | cons f fs ih =>
  simp only [List.forIn_cons,Op.eqArr,Sem.run_bind,Sem.run_ite]
  generalize (Go.part e xs (f*n)).run P w=r1
  cases r1 with
  | ok a w1 =>
   simp only [Result.andThen_ok]
   generalize (Go.part e ys (f*n)).run P w1=r2
   cases r2 with
   | ok b w2 =>
    simp only [Result.andThen_ok]
    generalize (Go.Op.equalIn d e a b).run P w2=r3
    cases r3 with
    | ok r w3 =>
     cases r
     ·simp only [Result.andThen_ok,Bool.not_false,if_true,Sem.run_pure]
     ·simp only [Result.andThen_ok,Bool.not_true,Bool.false_eq_true,if_false,Sem.run_pure]
      exact ih w3
    | halt x w3=>simp [Result.andThen]
   | halt x w2=>simp [Result.andThen]
  | halt x w1=>simp [Result.andThen]
end
section
variable {P:Program} {fid:Nat→FuncId} {w:World} {A:Av} {ι:Io}
def Two (fid:Nat→FuncId) (w:World) (A:Av) (ι:Io) (ag:Bool) (ks:List Nat) (x y:Value) (b:Bool):Prop :=
 if ag then ∃ vs us as bs,x = .agg ⟨vs⟩∧y = .agg ⟨us⟩∧LVs fid w A ι true vs as []∧LVs fid w A ι true us bs []∧eqLeaves ks as bs=some b
 else ∃ da db,LV fid w A ι true x da []∧LV fid w A ι true y db []∧eqLeaves ks [da] [db]=some b
theorem two_part {t:TypeId} {ag:Bool} {off:Nat} {ks:List Nat} {vs us:List Value} {as bs:List D} {b:Bool} (h1:aggT P t=some ag) (h2:sizeT P t=some ks.length) (hk:ag=false→ks.length=1) (hv:LVs fid w A ι true vs as []) (hu:LVs fid w A ι true us bs [])
  (h:eqLeaves ks ((as.drop off).take ks.length) ((bs.drop off).take ks.length)=some b) :
  ∃ x y,(Go.part t ⟨vs⟩ off).run P w = .ok x w∧(Go.part t ⟨us⟩ off).run P w = .ok y w∧Two fid w A ι ag ks x y b:=by
 obtain ⟨n1,n2⟩:=eqLeaves_len h
 rw [List.length_take,List.length_drop] at n1 n2
 cases ag with
 | true =>
  obtain ⟨x,r1,l1⟩:=run_part (P:=P) (off:=off) (d:= .agg ((as.drop off).take ks.length)) h1 h2 hv (by unfold part;rw [if_pos rfl,if_pos (by rw [List.length_drop];omega)])
  obtain ⟨y,r2,l2⟩:=run_part (P:=P) (off:=off) (d:= .agg ((bs.drop off).take ks.length)) h1 h2 hu (by unfold part;rw [if_pos rfl,if_pos (by rw [List.length_drop];omega)])
  obtain ⟨vs',e1,q1⟩:=l1.inv_agg
  obtain ⟨us',e2,q2⟩:=l2.inv_agg
  refine ⟨x,y,r1,r2,?_⟩
  unfold Two
  rw [if_pos rfl]
  exact ⟨vs',us',_,_,e1,e2,q1,q2,h⟩
 | false =>
  have hk1:=hk rfl
  have e1:∃ a l,as.drop off=a :: l:=by
   cases hh:as.drop off with
   | nil=>have:=congrArg List.length hh;rw [List.length_drop,List.length_nil] at this;omega
   | cons a l=>exact ⟨a,l,rfl⟩
  have e2:∃ a l,bs.drop off=a :: l:=by
   cases hh:bs.drop off with
   | nil=>have:=congrArg List.length hh;rw [List.length_drop,List.length_nil] at this;omega
   | cons a l=>exact ⟨a,l,rfl⟩
  obtain ⟨da,la,e1⟩:=e1
  obtain ⟨db,lb,e2⟩:=e2
  obtain ⟨x,r1,l1⟩:=run_part (P:=P) (off:=off) (d:=da) h1 h2 hv (by unfold part;rw [e1];simp)
  obtain ⟨y,r2,l2⟩:=run_part (P:=P) (off:=off) (d:=db) h1 h2 hu (by unfold part;rw [e2];simp)
  refine ⟨x,y,r1,r2,?_⟩
  unfold Two
  rw [if_neg (by simp)]
  rw [e1,e2,hk1] at h
  exact ⟨da,db,l1,l2,h⟩
def aggD:TypeDesc→Bool
 | .struct _ | .array _ _=>true
 | _=>false
theorem aggT_of {t:TypeId} {u:TypeDesc} (h:P.underlying t=some u):aggT P t=some (aggD u):=by
 unfold aggT;rw [h];cases u<;>rfl
theorem sized_some {t:TypeId} {o:Option (List Nat)} {ks:List Nat} (h:sized P t o=some ks):o=some ks∧sizeT P t=some ks.length:=by
 unfold sized at h
 obtain ⟨l,h1,h2⟩:=Option.bind_eq_some_iff.1 h
 split at h2
 ·rename_i hs
  injection h2 with h2;subst h2
  exact ⟨h1,hs⟩
 ·cases h2
theorem leavesT_size {n:Nat} {t:TypeId} {ks:List Nat} (h:leavesT P n t=some ks):∃ ag,aggT P t=some ag∧sizeT P t=some ks.length∧(ag=false→ks.length=1):=by
 cases n with
 | zero=>simp [leavesT] at h
 | succ n =>
  unfold leavesT at h
  obtain ⟨h1,h2⟩:=sized_some h
  split at h1
  ·rename_i hu;injection h1 with h1;exact ⟨false,by rw [aggT_of hu];rfl,h2,fun _=>by rw [←h1];rfl⟩
  ·rename_i hu;injection h1 with h1;exact ⟨false,by rw [aggT_of hu];rfl,h2,fun _=>by rw [←h1];rfl⟩
  ·rename_i hu;injection h1 with h1;exact ⟨false,by rw [aggT_of hu];rfl,h2,fun _=>by rw [←h1];rfl⟩
  ·rename_i hu;exact ⟨true,by rw [aggT_of hu];rfl,h2,by simp⟩
  ·rename_i hu;exact ⟨true,by rw [aggT_of hu];rfl,h2,by simp⟩
  ·cases h1
theorem eqIn_plain:∀ (n:Nat) (t:TypeId) (ks:List Nat),leavesT P n t=some ks→∀ d,n≤d→∀ {ag:Bool} {x y:Value} {b:Bool},aggT P t=some ag→Two fid w A ι ag ks x y b→(Go.Op.equalIn d t x y).run P w = .ok b w
 | 0,t,ks,h,d,hd,ag,x,y,b,h1,h3=>by simp [leavesT] at h
 | n+1,t,ks,h,0,hd,ag,x,y,b,h1,h3=>by omega
 | n+1,t,ks,h,d+1,hd,ag,x,y,b,h1,h3=>by
  have hd':n≤d:=by omega
  unfold leavesT at h
  obtain ⟨h,h2⟩:=sized_some h
  have leaf:∀ u k,P.underlying t=some u→aggD u=false→some [k]=some ks→∃ da db,LV fid w A ι true x da []∧LV fid w A ι true y db []∧eqLeaf k da db=some b:=by
   intro u k hu hf hk
   have:=aggT_of hu
   rw [hf,h1] at this
   injection this with this
   subst this
   injection hk with hk
   subst hk
   unfold Two at h3
   rw [if_neg (by simp)] at h3
   obtain ⟨da,db,l1,l2,he⟩:=h3
   refine ⟨da,db,l1,l2,?_⟩
   simp only [eqLeaves,Option.map_some,Bool.and_true] at he
   obtain ⟨z,hz,he⟩:=Option.bind_eq_some_iff.1 he
   injection he with he
   subst he
   exact hz
  have big:∀ u,P.underlying t=some u→aggD u=true→∃ vs us as bs,x = .agg ⟨vs⟩∧y = .agg ⟨us⟩∧LVs fid w A ι true vs as []∧LVs fid w A ι true us bs []∧eqLeaves ks as bs=some b:=by
   intro u hu hf
   have:=aggT_of hu
   rw [hf,h1] at this
   injection this with this
   subst this
   unfold Two at h3
   rwa [if_pos rfl] at h3
  split at h
  ·rename_i hu
   obtain ⟨da,db,l1,l2,he⟩:=leaf _ 0 hu rfl h
   unfold eqLeaf at he
   split at he
   ·injection he with he;subst he
    rw [l1.inv_bool.1,l2.inv_bool.1]
    simp [Go.Op.equalIn,run_underlying hu]
   ·rename_i e;exact absurd e (by decide)
   ·rename_i e;exact absurd e (by decide)
   ·cases he
  ·rename_i kk hu
   obtain ⟨da,db,l1,l2,he⟩:=leaf _ 1 hu rfl h
   unfold eqLeaf at he
   split at he
   ·rename_i e;exact absurd e (by decide)
   ·split at he
    ·rename_i hk
     subst hk
     injection he with he;subst he
     rw [l1.inv_int.1,l2.inv_int.1]
     simp [Go.Op.equalIn,run_underlying hu]
    ·cases he
   ·rename_i e;exact absurd e (by decide)
   ·cases he
  ·rename_i hu
   obtain ⟨da,db,l1,l2,he⟩:=leaf _ 2 hu rfl h
   unfold eqLeaf at he
   split at he
   ·rename_i e;exact absurd e (by decide)
   ·rename_i e;exact absurd e (by decide)
   ·injection he with he;subst he
    rw [l1.inv_str.1,l2.inv_str.1]
    rw [run_equalIn_string w d t _ _ hu,ByteArray.toList_eq,ByteArray.toList_eq]
   ·cases he
  ·rename_i fs hu
   split at h
   ·rename_i hst
    obtain ⟨vs,us,as,bs,rfl,rfl,lv,lu,he⟩:=big _ hu rfl
    have hfo:P.fieldsOf t=fs:=by simp [Program.fieldsOf,hu]
    rw [run_equalIn_struct w d t _ _ (by rw [hfo];exact hu) hst,hfo]
    have key:∀ (fl:List Field) (off:Nat) (ls:List Nat) (b:Bool),leavesFs (leavesT P n) off fl=some ls→eqLeaves ls (as.drop off) (bs.drop off)=some b→(Go.Op.eqFields d ⟨vs⟩ ⟨us⟩ fl).run P w = .ok b w:=by
     intro fl
     induction fl with
     | nil =>
      intro off ls b hls hb
      simp [leavesFs] at hls
      subst hls
      have:b=true:=by
       obtain ⟨n1,n2⟩:=eqLeaves_len hb
       rw [List.length_eq_zero_iff.1 n1,List.length_eq_zero_iff.1 n2] at hb
       simp [eqLeaves] at hb
       exact hb
      subst this
      simp [Go.Op.eqFields]
     | cons f fl ih =>
      intro off ls b hls hb
      simp only [leavesFs] at hls
      split at hls
      ·rename_i hf
       obtain ⟨hf1,hf2⟩:=hf
       obtain ⟨kf,hkf,hls⟩:=Option.bind_eq_some_iff.1 hls
       obtain ⟨l',hl',rfl⟩:=Option.map_eq_some_iff.1 hls
       obtain ⟨p,q,e1,e2,rfl⟩:=eqLeaves_app hb
       obtain ⟨ag',g1,g2,g3⟩:=leavesT_size hkf
       rw [List.drop_drop,List.drop_drop] at e2
       obtain ⟨x',y',r1,r2,two⟩:=two_part g1 g2 g3 lv lu e1
       have hr:=eqIn_plain n f.type kf hkf d hd' g1 two
       subst hf2
       simp only [Go.Op.eqFields,if_pos hf1,Sem.run_bind,r1,r2,hr,Result.andThen_ok,Sem.run_ite]
       cases p with
       | true=>simp only [Bool.not_true,Bool.false_eq_true,if_false,Bool.true_and];exact ih _ l' q hl' e2
       | false=>simp
      ·cases hls
    exact key fs.toList 0 ks b h (by simpa using he)
   ·cases h
  ·rename_i len e hu
   obtain ⟨ke,hke,rfl⟩:=Option.map_eq_some_iff.1 h
   obtain ⟨vs,us,as,bs,rfl,rfl,lv,lu,he⟩:=big _ hu rfl
   obtain ⟨ag',g1,g2,g3⟩:=leavesT_size hke
   rw [run_equalIn_array w d t e len ke.length _ _ hu g2]
   have key:∀ (m i:Nat) (b:Bool),eqLeaves (List.replicate m ke).flatten (as.drop (i*ke.length)) (bs.drop (i*ke.length))=some b→(Op.eqArr d ⟨vs⟩ ⟨us⟩ e ke.length (List.range' i m)).run P w = .ok b w:=by
    intro m
    induction m with
    | zero =>
     intro i b hb
     have:b=true:=by
      obtain ⟨n1,n2⟩:=eqLeaves_len hb
      simp only [List.replicate_zero,List.flatten_nil,List.length_nil] at n1 n2
      rw [List.length_eq_zero_iff.1 n1,List.length_eq_zero_iff.1 n2] at hb
      simp [eqLeaves] at hb
      exact hb
     subst this
     simp [Op.eqArr]
    | succ m ih =>
     intro i b hb
     rw [List.replicate_succ,List.flatten_cons] at hb
     obtain ⟨p,q,e1,e2,rfl⟩:=eqLeaves_app hb
     rw [List.drop_drop,List.drop_drop] at e2
     obtain ⟨x',y',r1,r2,two⟩:=two_part g1 g2 g3 lv lu e1
     have hr:=eqIn_plain n e ke hke d hd' g1 two
     rw [List.range'_succ]
     simp only [Op.eqArr,Sem.run_bind,r1,r2,hr,Result.andThen_ok,Sem.run_ite]
     cases p with
     | true =>
      simp only [Bool.not_true,Bool.false_eq_true,if_false,Bool.true_and]
      exact ih (i+1) q (by rw [Nat.add_mul,Nat.one_mul];exact e2)
     | false=>simp
   rw [List.range_eq_range']
   exact key len 0 b (by simpa using he)
  ·cases h
end
section
variable {P:Program} {num:FuncId→Option Nat} {fid:Nat→FuncId} (hnum:∀ f g,num f=some g→fid g=f)
 {w:World} {A:Av} {ι:Io} {a:Act} {E:Env} {own:Nat→List Nat} (hl:∀ t,LV fid w A ι true (a.tmps.getD t undef) (lk E t) (own t)) {o:Oper} {d:D}
include hnum hl
theorem x_eqa {neg:Bool} {t t':TypeId} {x y:Operand} {ks:List Nat} {u:TypeDesc} (ho:o.op = .binOp (if neg then .neq else .eql) t x y t') (hu:P.underlying t=some u) (hag:aggD u=true) (hg:P.eqGuardType P.depth t=false) (hk:leavesT P 9 t=some ks) (hx:okOpd x=true) (hy:okOpd y=true)
  (h:eqaD neg ks (ov E (opd num x)) (ov E (opd num y))=some d):Pure1 P fid w A ι a o d:=by
 have kx:=lv_opd hnum hl x hx
 have ky:=lv_opd hnum hl y hy
 generalize ov E (opd num x)=dx at kx h
 generalize ov E (opd num y)=dy at ky h
 unfold eqaD at h
 split at h
 ·rename_i as bs
  obtain ⟨b,hb,rfl⟩:=Option.map_eq_some_iff.1 h
  obtain ⟨vs,e1,hv⟩:=kx.inv_agg
  obtain ⟨us,e2,hu'⟩:=ky.inv_agg
  have hat:aggT P t=some true:=by rw [aggT_of hu,hag]
  have hleaf:∀ (l:List D),(∃ b bs',eqLeaves ks l bs'=some b∨eqLeaves ks bs' l=some b)→noTrees l=true:=by
   intro l hh
   obtain ⟨b,bs',hh⟩:=hh
   have one:∀ (ks:List Nat) (l l':List D) (b:Bool),eqLeaves ks l l'=some b→noTrees l=true∧noTrees l'=true:=by
    intro ks
    induction ks with
    | nil=>intro l l' b h;cases l<;>cases l'<;>simp [eqLeaves,noTrees] at h ⊢
    | cons k ks ih =>
     intro l l' b h
     cases l with
     | nil=>simp [eqLeaves] at h
     | cons a l =>
      cases l' with
      | nil=>simp [eqLeaves] at h
      | cons c l' =>
       simp only [eqLeaves] at h
       obtain ⟨z,h1,h⟩:=Option.bind_eq_some_iff.1 h
       obtain ⟨b',h2,rfl⟩:=Option.map_eq_some_iff.1 h
       obtain ⟨i1,i2⟩:=ih l l' b' h2
       unfold eqLeaf at h1
       split at h1<;>simp [noTrees,noTree,i1,i2] at h1 ⊢
   rcases hh with hh | hh
   ·exact (one _ _ _ _ hh).1
   ·exact (one _ _ _ _ hh).2
  rw [hv.noTree (hleaf as ⟨b,bs, .inl hb⟩)] at hv
  rw [hu'.noTree (hleaf bs ⟨b,as, .inr hb⟩)] at hu'
  have two:Two fid w A ι true ks (.agg ⟨vs⟩) (.agg ⟨us⟩) b:=by unfold Two;rw [if_pos rfl];exact ⟨vs,us,as,bs,rfl,rfl,hv,hu',hb⟩
  have hr:=eqIn_plain (P:=P) 9 t ks hk 10000 (by omega) hat two
  refine ⟨.bool (b != neg),?_, .sc _ rfl⟩
  simp only [execOp,ho]
  rw [e1,e2]
  cases neg with
  | false =>
   simp only [Bool.false_eq_true,if_false,Sem.run_bind,run_eqGuard_agg w .eql t x y _ _ hg,Result.andThen_ok,run_eql_struct,hr,Sem.run_pure]
   simp
  | true =>
   simp only [if_true,Sem.run_bind,run_eqGuard_agg w .neq t x y _ _ hg,Result.andThen_ok,run_neq_struct,hr,Sem.run_pure]
   simp
 ·cases h
end
end Lg
namespace Lg
open Go
set_option linter.unusedVariables false
set_option linter.unusedSimpArgs false
set_option linter.unusedSectionVars false
section
variable {P:Program} {fid:Nat→FuncId} {w:World} {A:Av} {ι:Io}
theorem eqLeaves_self:∀ {ks:List Nat} {as bs:List D} {b:Bool},eqLeaves ks as bs=some b→eqLeaves ks as as=some true
 | [],as,bs,b,h=>by
  cases as with
  | nil=>rfl
  | cons a as=>cases bs<;>simp [eqLeaves] at h
 | k :: ks,as,bs,b,h=>by
  cases as with
  | nil=>simp [eqLeaves] at h
  | cons a as =>
   cases bs with
   | nil=>simp [eqLeaves] at h
   | cons c bs =>
    simp only [eqLeaves] at h ⊢
    obtain ⟨x,h1,h⟩:=Option.bind_eq_some_iff.1 h
    obtain ⟨y,h2,_⟩:=Option.map_eq_some_iff.1 h
    have e1:eqLeaf k a a=some true:=by
     unfold eqLeaf at h1 ⊢
     split at h1<;>simp_all
    rw [e1,eqLeaves_self h2];rfl
theorem two_self {ag:Bool} {ks:List Nat} {x y:Value} {b:Bool} (h:Two fid w A ι ag ks x y b):Two fid w A ι ag ks x x true:=by
 unfold Two at h ⊢
 cases ag with
 | true =>
  obtain ⟨vs,us,as,bs,e1,e2,l1,l2,he⟩:=h
  exact ⟨vs,vs,as,as,e1,e1,l1,l1,eqLeaves_self he⟩
 | false =>
  obtain ⟨da,db,l1,l2,he⟩:=h
  exact ⟨da,da,l1,l1,eqLeaves_self he⟩
theorem two_of {ag:Bool} {ks:List Nat} {x y:Value} {da db:D} {b:Bool} (lx:LV fid w A ι true x da []) (ly:LV fid w A ι true y db []) (h:eqK ag ks da db=some b):Two fid w A ι ag ks x y b:=by
 unfold eqK at h
 unfold Two
 cases ag with
 | true =>
  simp only [if_true] at h ⊢
  split at h
  ·rename_i as bs
   obtain ⟨vs,e1,l1⟩:=lx.inv_agg
   obtain ⟨us,e2,l2⟩:=ly.inv_agg
   exact ⟨vs,us,as,bs,e1,e2,l1,l2,h⟩
  ·cases h
 | false =>
  simp only [Bool.false_eq_true,if_false] at h ⊢
  exact ⟨da,db,lx,ly,h⟩
theorem checkKey_plain (em:Bool):∀ (n:Nat) (t:TypeId) (ks:List Nat),leavesT P n t=some ks→∀ d,n≤d→∀ {ag:Bool} {x:Value},aggT P t=some ag→Two fid w A ι ag ks x x true→(Instr.checkKey em d t x).run P w = .ok () w
 | 0,t,ks,h,d,hd,ag,x,h1,h3=>by simp [leavesT] at h
 | n+1,t,ks,h,0,hd,ag,x,h1,h3=>by omega
 | n+1,t,ks,h,d+1,hd,ag,x,h1,h3=>by
  have hd':n≤d:=by omega
  unfold leavesT at h
  obtain ⟨h,h2⟩:=sized_some h
  have leaf:∀ u k,P.underlying t=some u→aggD u=false→some [k]=some ks→∃ da,LV fid w A ι true x da []∧eqLeaf k da da=some true:=by
   intro u k hu hf hk
   have:=aggT_of hu
   rw [hf,h1] at this
   injection this with this
   subst this
   injection hk with hk
   subst hk
   unfold Two at h3
   rw [if_neg (by simp)] at h3
   obtain ⟨da,db,l1,l2,he⟩:=h3
   refine ⟨da,l1,?_⟩
   have he:=eqLeaves_self he
   simp only [eqLeaves,Option.map_some,Bool.and_true] at he
   obtain ⟨z,hz,he⟩:=Option.bind_eq_some_iff.1 he
   injection he with he
   subst he
   exact hz
  have big:∀ u,P.underlying t=some u→aggD u=true→∃ vs as,x = .agg ⟨vs⟩∧LVs fid w A ι true vs as []∧eqLeaves ks as as=some true:=by
   intro u hu hf
   have:=aggT_of hu
   rw [hf,h1] at this
   injection this with this
   subst this
   unfold Two at h3
   rw [if_pos rfl] at h3
   obtain ⟨vs,us,as,bs,e1,e2,l1,l2,he⟩:=h3
   exact ⟨vs,as,e1,l1,eqLeaves_self he⟩
  have lf:∀ u k,P.underlying t=some u→aggD u=false→some [k]=some ks→(∀ ms,u≠ .interface ms)→(Instr.checkKey em (d+1) t x).run P w = .ok () w:=by
   intro u k hu hf hk hni
   obtain ⟨da,l1,he⟩:=leaf u k hu hf hk
   have:isSc x=true:=by
    unfold eqLeaf at he
    split at he
    ·exact (l1.inv_sc).1▸(l1.inv_sc).2.1
    ·exact (l1.inv_sc).1▸(l1.inv_sc).2.1
    ·exact (l1.inv_sc).1▸(l1.inv_sc).2.1
    ·cases he
   unfold Instr.checkKey
   simp only [Sem.run_bind,run_underlying hu,Result.andThen_ok]
   cases u<;>simp [aggD] at hf<;>cases x<;>simp [isSc] at this<;>first | rfl | exact absurd rfl (hni _)
  split at h
  ·rename_i hu;exact lf _ _ hu rfl h (by simp)
  ·rename_i kk hu;exact lf _ _ hu rfl h (by simp)
  ·rename_i hu;exact lf _ _ hu rfl h (by simp)
  ·rename_i fs hu
   split at h
   ·obtain ⟨vs,as,rfl,lv,he⟩:=big _ hu rfl
    unfold Instr.checkKey
    simp only [Sem.run_bind,run_underlying hu,Result.andThen_ok]
    rw [←Array.forIn_toList]
    have key:∀ (fl:List Field) (off:Nat) (ls:List Nat),leavesFs (leavesT P n) off fl=some ls→eqLeaves ls (as.drop off) (as.drop off)=some true →
      (forIn fl PUnit.unit (fun (f:Field) (r:PUnit)=>do
       if f.name≠ "_" then
         do let y ←Go.part f.type ⟨vs⟩ f.offset;Instr.checkKey em d f.type y;pure (ForInStep.yield PUnit.unit)
        else pure (ForInStep.yield PUnit.unit)):Sem PUnit).run P w = .ok () w:=by
     intro fl
     induction fl with
     | nil=>intro off ls hls hb;rfl
     | cons f fl ih =>
      intro off ls hls hb
      simp only [leavesFs] at hls
      split at hls
      ·rename_i hf
       obtain ⟨hf1,hf2⟩:=hf
       obtain ⟨kf,hkf,hls⟩:=Option.bind_eq_some_iff.1 hls
       obtain ⟨l',hl',rfl⟩:=Option.map_eq_some_iff.1 hls
       obtain ⟨p,q,e1,e2,e3⟩:=eqLeaves_app hb
       obtain ⟨ag',g1,g2,g3⟩:=leavesT_size hkf
       rw [List.drop_drop] at e2
       obtain ⟨x',y',r1,r2,two⟩:=two_part g1 g2 g3 lv lv e1
       have hr:=checkKey_plain em n f.type kf hkf d hd' g1 (two_self two)
       subst hf2
       have e2':=eqLeaves_self e2
       simp only [List.forIn_cons,Sem.run_bind,hf1,ne_eq,not_false_eq_true,if_true,Result.andThen_ok,r1,hr,Sem.run_pure]
       have:=ih _ l' hl' e2'
       simpa using this
      ·cases hls
    have:=key fs.toList 0 ks h (by simpa using he)
    simp at this ⊢
    rw [this];rfl
   ·cases h
  ·rename_i len e hu
   obtain ⟨ke,hke,rfl⟩:=Option.map_eq_some_iff.1 h
   obtain ⟨vs,as,rfl,lv,he⟩:=big _ hu rfl
   obtain ⟨ag',g1,g2,g3⟩:=leavesT_size hke
   unfold Instr.checkKey
   simp only [Sem.run_bind,run_underlying hu,Result.andThen_ok]
   simp only [Std.Legacy.Range.forIn_eq_forIn_range',Std.Legacy.Range.size,Nat.sub_zero,Nat.add_one_sub_one,Nat.div_one]
   have hso:(Go.sizeOf e).run P w = .ok ke.length w:=run_sizeT g2
   have key:∀ (m i:Nat),eqLeaves (List.replicate m ke).flatten (as.drop (i*ke.length)) (as.drop (i*ke.length))=some true →
     (forIn (List.range' i m) PUnit.unit (fun (j:Nat) (r:PUnit)=>do
       let s ←Go.sizeOf e
       let y ←Go.part e ⟨vs⟩ (j*s);Instr.checkKey em d e y;pure (ForInStep.yield PUnit.unit)):Sem PUnit).run P w = .ok () w:=by
    intro m
    induction m with
    | zero=>intro i hb;rfl
    | succ m ih =>
     intro i hb
     rw [List.replicate_succ,List.flatten_cons] at hb
     obtain ⟨p,q,e1,e2,e3⟩:=eqLeaves_app hb
     rw [List.drop_drop] at e2
     obtain ⟨x',y',r1,r2,two⟩:=two_part g1 g2 g3 lv lv e1
     have hr:=checkKey_plain em n e ke hke d hd' g1 (two_self two)
     rw [List.range'_succ]
     simp only [List.forIn_cons,Sem.run_bind,hso,Result.andThen_ok,r1,hr,Sem.run_pure]
     refine ih (i+1) ?_
     rw [Nat.add_mul,Nat.one_mul];exact eqLeaves_self e2
   have:=key len 0 (by simpa using he)
   rw [this];rfl
  ·cases h
theorem sameNow_equal {t:TypeId} {d:TypeDesc} {x y:Value} {b:Bool} (hd:P.underlying t=some d) (h:Instr.sameNow d x y=some b):(Op.equal t x y).run P w = .ok b w:=by
 have e:∀ n,(Op.equalIn (n+1) t x y).run P w = .ok b w:=by
  intro n
  unfold Instr.sameNow at h
  split at h
  ·split at h
   ·rename_i hk
    subst hk
    injection h with h;subst h
    simp only [Op.equalIn,Sem.run_bind,run_underlying hd,Result.andThen_ok,Sem.run_pure,if_true]
   ·cases h
  ·injection h with h;subst h
   simp only [Op.equalIn,Sem.run_bind,run_underlying hd,Result.andThen_ok,Sem.run_pure]
  ·injection h with h;subst h
   simp only [Op.equalIn,Sem.run_bind,run_underlying hd,Result.andThen_ok,Sem.run_pure]
  ·cases h
 exact e 9999
theorem findNow_asking {t:TypeId} {d:TypeDesc} {k:Value} (hd:P.underlying t=some d):∀ (es:List MapEntry) (i:Nat) (r:Option (Nat×Value)),Instr.findNow d k es i=some r→(Instr.findAsking t k es i).run P w = .ok r w
 | [],i,r,h=>by simp [Instr.findNow] at h;subst h;simp [Instr.findAsking]
 | e :: es,i,r,h=>by
  simp only [Instr.findNow] at h
  split at h
  ·rename_i hs;injection h with h;subst h
   simp only [Instr.findAsking,Sem.run_bind,sameNow_equal hd hs,Result.andThen_ok,if_true,Sem.run_pure]
  ·rename_i hs
   simp only [Instr.findAsking,Sem.run_bind,sameNow_equal hd hs,Result.andThen_ok,Bool.false_eq_true,if_false]
   exact findNow_asking hd es (i+1) r h
  ·cases h
theorem findKey_asking {t:TypeId} {d:TypeDesc} {k:Value} {es:List MapEntry} {r:Option (Nat×Value)} (hd:P.underlying t=some d) (h:(Instr.findAsking t k es).run P w = .ok r w):(Instr.findKey t k es).run P w = .ok r w:=by
 unfold Instr.findKey
 simp only [Sem.run_bind,run_underlying hd,Result.andThen_ok]
 cases hn:Instr.findNow d k es 0 with
 | none=>simpa using h
 | some q =>
  have:=findNow_asking (w:=w) hd es 0 q hn
  rw [h] at this
  simp only [Sem.run_pure]
  exact this.symm
theorem asking {t:TypeId} {ks:List Nat} {ag:Bool} {k:Value} {dk:D} (hks:leavesT P 9 t=some ks) (hag:aggT P t=some ag) (l:LV fid w A ι true k dk []):∀ (es:List MapEntry) (kk:List D) (r:Option Nat) (i:Nat),
  LVs fid w A ι true (es.map (·.key)) kk []→findK ag ks dk kk=some r →
  ∃ q,(Instr.findAsking t k es i).run P w = .ok q w∧(r=none→q=none)∧(∀ j,r=some j→∃ e dj,es[j]? = some e∧q=some (i+j,e.val)∧kk[j]? = some dj∧eqK ag ks dk dj=some true)
 | [],kk,r,i,h,hr=>by
  have:=h.length_eq
  simp at this
  have:kk=[]:=List.length_eq_zero_iff.1 this.symm
  subst this
  simp [findK] at hr
  subst hr
  exact ⟨none,by simp [Instr.findAsking],fun _=>rfl,by simp⟩
 | e :: es,[],r,i,h,hr=>by cases h
 | e :: es,dj :: kk,r,i,h,hr=>by
  simp only [List.map_cons] at h
  obtain ⟨le,ls⟩:=h.uncons
  simp only [findK] at hr
  obtain ⟨b,hb,hr⟩:=Option.bind_eq_some_iff.1 hr
  have hq:=eqIn_plain (P:=P) 9 t ks hks 10000 (by omega) hag (two_of l le hb)
  have hq':(Op.equal t k e.key).run P w = .ok b w:=hq
  cases b with
  | true =>
   simp only [if_true,Option.some.injEq] at hr
   subst hr
   refine ⟨some (i,e.val),?_,by simp,?_⟩
   ·simp only [Instr.findAsking,Sem.run_bind,hq',Result.andThen_ok,if_true,Sem.run_pure]
   ·intro j hj;injection hj with hj;subst hj
    exact ⟨e,dj,rfl,rfl,rfl,hb⟩
  | false =>
   simp only [Bool.false_eq_true,if_false] at hr
   obtain ⟨r',hr',rfl⟩:=Option.map_eq_some_iff.1 hr
   obtain ⟨q,q1,q2,q3⟩:=asking hks hag l es kk r' (i+1) ls hr'
   refine ⟨q,?_,?_,?_⟩
   ·simp only [Instr.findAsking,Sem.run_bind,hq',Result.andThen_ok,Bool.false_eq_true,if_false]
    exact q1
   ·intro hn;cases r' with | none=>exact q2 rfl | some j=>simp at hn
   ·intro j hj
    cases r' with
    | none=>simp at hj
    | some j' =>
     simp at hj
     subst hj
     obtain ⟨e',dj',f1,f2,f3,f4⟩:=q3 j' rfl
     exact ⟨e',dj',by simpa using f1,by rw [f2];simp;omega,by simpa using f3,f4⟩
theorem sameLeaf {k:Nat} {n:Nat} {x y:Value} {da db:D} (lx:LV fid w A ι true x da []) (ly:LV fid w A ι true y db []) (h:eqLeaf k da db=some true):Instr.sameBits n x y=true∧x=y:=by
 unfold eqLeaf at h
 split at h
 ·rw [lx.inv_bool.1,ly.inv_bool.1];injection h with h;simp at h;subst h;cases n<;>simp [Instr.sameBits]
 ·rw [lx.inv_int.1,ly.inv_int.1]
  split at h
  ·rename_i hk;subst hk;injection h with h;simp at h;subst h;cases n<;>simp [Instr.sameBits]
  ·cases h
 ·rename_i a b
  rw [lx.inv_str.1,ly.inv_str.1]
  injection h with h
  simp only [beq_iff_eq] at h
  have:a=b:=by
   obtain ⟨⟨a⟩⟩:=a;obtain ⟨⟨b⟩⟩:=b
   simp at h;subst h;rfl
  subst this
  cases n<;>simp [Instr.sameBits,MapKept.bytes_beq]
 ·cases h
theorem sameLeaves {n:Nat}:∀ {ks:List Nat} {xs ys:List Value} {as bs:List D},LVs fid w A ι true xs as []→LVs fid w A ι true ys bs []→eqLeaves ks as bs=some true→xs.length=ys.length∧(xs.zip ys).all (fun p=>Instr.sameBits n p.1 p.2)=true
 | [],xs,ys,as,bs,lx,ly,h=>by
  obtain ⟨n1,n2⟩:=eqLeaves_len h
  have e1:=lx.length_eq
  have e2:=ly.length_eq
  simp only [List.length_nil] at n1 n2
  have hx:xs=[]:=List.length_eq_zero_iff.1 (by omega)
  have hy:ys=[]:=List.length_eq_zero_iff.1 (by omega)
  subst hx;subst hy
  simp
 | k :: ks,xs,ys,as,bs,lx,ly,h=>by
  cases as with
  | nil=>simp [eqLeaves] at h
  | cons a as =>
   cases bs with
   | nil=>simp [eqLeaves] at h
   | cons b bs =>
    cases xs with
    | nil=>cases lx
    | cons x xs =>
     cases ys with
     | nil=>cases ly
     | cons y ys =>
      simp only [eqLeaves] at h
      obtain ⟨p,h1,h⟩:=Option.bind_eq_some_iff.1 h
      obtain ⟨q,h2,h3⟩:=Option.map_eq_some_iff.1 h
      simp only [Bool.and_eq_true] at h3
      obtain ⟨rfl,rfl⟩:=h3
      obtain ⟨i1,i2⟩:=sameLeaves (n:=n) lx.uncons.2 ly.uncons.2 h2
      refine ⟨by simp [i1],?_⟩
      simp only [List.zip_cons_cons,List.all_cons,Bool.and_eq_true]
      exact ⟨(sameLeaf lx.uncons.1 ly.uncons.1 h1).1,i2⟩
theorem sameKey {ag:Bool} {ks:List Nat} {x y:Value} {da db:D} (lx:LV fid w A ι true x da []) (ly:LV fid w A ι true y db []) (h:eqK ag ks da db=some true):Instr.sameBits 10000 x y=true:=by
 unfold eqK at h
 cases ag with
 | true =>
  simp only [if_true] at h
  split at h
  ·rename_i as bs
   obtain ⟨vs,rfl,l1⟩:=lx.inv_agg
   obtain ⟨us,rfl,l2⟩:=ly.inv_agg
   obtain ⟨i1,i2⟩:=sameLeaves (n:=9999) l1 l2 h
   show Instr.sameBits (9999+1) _ _=true
   unfold Instr.sameBits
   simp only [Bool.and_eq_true]
   exact ⟨by simpa using i1,i2⟩
  ·cases h
 | false =>
  simp only [Bool.false_eq_true,if_false] at h
  cases ks with
  | nil=>simp [eqLeaves] at h
  | cons k ks =>
   cases ks with
   | cons=>simp [eqLeaves] at h
   | nil =>
    simp [eqLeaves] at h
    exact (sameLeaf lx ly h).1
theorem eqK_swap {ag:Bool} {ks:List Nat} {a b:D} (h:eqK ag ks a b=some true):eqK ag ks b a=some true:=by
 have leaf:∀ {k a b},eqLeaf k a b=some true→eqLeaf k b a=some true:=by
  intro k a b h
  unfold eqLeaf at h ⊢
  split at h<;>simp_all
  all_goals split at h<;>simp_all
 have lv:∀ {ks:List Nat} {as bs:List D},eqLeaves ks as bs=some true→eqLeaves ks bs as=some true:=by
  intro ks
  induction ks with
  | nil=>intro as bs h;cases as<;>cases bs<;>simp [eqLeaves] at h ⊢
  | cons k ks ih =>
   intro as bs h
   cases as with
   | nil=>simp [eqLeaves] at h
   | cons a as =>
    cases bs with
    | nil=>simp [eqLeaves] at h
    | cons c bs =>
     simp only [eqLeaves] at h ⊢
     obtain ⟨p,h1,h⟩:=Option.bind_eq_some_iff.1 h
     obtain ⟨q,h2,h3⟩:=Option.map_eq_some_iff.1 h
     simp only [Bool.and_eq_true] at h3
     obtain ⟨rfl,rfl⟩:=h3
     rw [leaf h1,ih h2];rfl
 unfold eqK at h ⊢
 cases ag with
 | true =>
  simp only [if_true] at h ⊢
  split at h
  ·exact lv h
  ·cases h
 | false =>
  simp only [Bool.false_eq_true,if_false] at h ⊢
  exact lv h
end
section
variable {P:Program} {num:FuncId→Option Nat} {fid:Nat→FuncId} (hnum:∀ f g,num f=some g→fid g=f)
 {w:World} {A:Av} {ι:Io} {H:List Ob} {eo:List Nat} {a:Act} {E:Env} {own:Nat→List Nat} (hl:∀ t,LV fid w A ι true (a.tmps.getD t undef) (lk E t) (own t)) (hob:∀ i,ObjOK fid w A ι (ι i) (obAt H i)) {o:Oper} {d:D}
theorem x_mkm {t:TypeId} (ho:o.op = .makeMap t none):Does P fid w A ι H eo a o (.omp [] []) none:=by
 have K:=Keep.alloc w A (.map #[] 0)
 refine ⟨_, .map (some w.heap.size),_,_,[w.heap.size],?_, .inl rfl,XR.new K (.omp w.heap.size #[] 0 [] [] (alloc_heap_new w _) .nil .nil (fun off=> .inr rfl)) (by simp) (by simp)⟩
 simp only [execOp,ho]
 refine run_v ?_
 simp [Instr.makeMap,newObj,Sem.run,Sem.run_bind]
theorem mapT_some {t k e:TypeId} (h:mapT P t=some (k,e)):P.underlying t=some (.map k e):=by
 unfold mapT at h
 split at h
 ·injection h with h;simp only [Prod.mk.injEq] at h;rw [←h.1,←h.2];assumption
 ·cases h
include hob in
theorem mp_lv {v:Value} {O:List Nat} {id:Nat} {kk vv:List D} (h:LV fid w A ι true v (.mp id) O) (hH:H[id]? = some (.mpo kk vv)):∃ (b:Nat) (es:Array MapEntry) (c:Nat),v = .map (some b)∧ι id=some (some b)∧w.heap[b]? = some (.map es c) ∧
  LVs fid w A (fun _=>none) false (es.toList.map (·.key)) kk []∧LVs fid w A (fun _=>none) false (es.toList.map (·.val)) vv []∧∀ off,A b off:=by
 cases h with
 | mp _ b hi =>
  have:=hob id
  rw [obAt_of hH,hi] at this
  obtain ⟨b',es,c,e,h1,h2,h3,h4⟩:=this
  injection e with e;injection e with e;subst e
  exact ⟨b,es,c,rfl,hi,h1,h2,h3,h4⟩
theorem LV.ro_true {v:Value} {d:D} (h:LV fid w A ι true v d []) (e:isRO d=true):LV fid w A (fun _=>none) false v d []:=(h.ro e).weak
theorem Keep.setMap {w:World} {A:Av} {b:Nat} {es es':Array MapEntry} {c c':Nat} (hb:w.heap[b]? = some (.map es c)):Keep w {w with heap:=w.heap.setIfInBounds b (.map es' c')} A A (fun x=>x=b):=by
 have ne:∀ b',b'≠b→(w.heap.setIfInBounds b (.map es' c'))[b']? = w.heap[b']?:=fun b' h=>by
  rw [Array.getElem?_setIfInBounds,if_neg (by omega)]
 refine ⟨rfl,rfl,rfl,by simp,fun b' h _=>ne b' h,?_,?_,fun _ _ h=> .inl h,fun _ _ _ _ h=>h⟩
 ·intro b' off v hA h
  obtain ⟨cs,T,fr,h1,h2⟩:=cell_some h
  have:b'≠b:=by rintro rfl;rw [hb] at h1;cases h1
  exact cell_of (w:={w with heap:=w.heap.setIfInBounds b (.map es' c')}) ((ne b' this).trans h1) h2
 ·intro b' cs T fr h
  have:b'≠b:=by rintro rfl;rw [hb] at h;cases h
  exact ⟨cs,fr,(ne b' this).trans h,rfl⟩
theorem zero1T_some {t:TypeId} {z:D} (hnum:∀ f g,num f=some g→fid g=f) (h:zero1T P t=some z):∃ zv,(zeroValue t).run P w = .ok zv w∧LV fid w A ι true zv z []:=by
 unfold zero1T at h
 obtain ⟨v,hv,h⟩:=Option.bind_eq_some_iff.1 h
 obtain ⟨ti,hti,hzv⟩:=Option.bind_eq_some_iff.1 hv
 split at h
 ·rename_i hc
  injection h with h;subst h
  refine ⟨v,by simp [zeroValue,typeInfo,hti,hzv,Sem.run_bind],lv_leaf hnum v ?_⟩
  cases v<;>simp_all [cell1,notAgg]
 ·cases h
theorem desc_of {t:TypeId} {ag:Bool} (hag:aggT P t=some ag):∃ desc,P.underlying t=some desc:=by
 unfold aggT at hag
 cases hh:P.underlying t with
 | none=>rw [hh] at hag;simp at hag
 | some x=>exact ⟨x,rfl⟩
include hnum hl hob in
theorem x_lkp {t kt et:TypeId} {m k:Operand} {ok ag:Bool} {ks:List Nat} {z:D} {id:Nat} {kk vv:List D} {r:Option Nat} (ho:o.op = .lookup t m k ok) (ht:mapT P t=some (kt,et)) (hks:leavesT P 9 kt=some ks) (hag:aggT P kt=some ag) (hz:zero1T P et=some z)
  (hm:okOpd m=true) (hk:okOpd k=true) (e1:ov E (opd num m) = .mp id) (hH:H[id]? = some (.mpo kk vv)) (hn:noTree (ov E (opd num k))=true) (hs:eqK ag ks (ov E (opd num k)) (ov E (opd num k))=some true) (hr:findK ag ks (ov E (opd num k)) kk=some r)
  (hd:getK ok z vv r=some d):Pure1 P fid w A ι a o d:=by
 have km:=lv_opd hnum hl m hm
 rw [e1] at km
 obtain ⟨b,es,c,em,hi,hb,lk,lx,hA⟩:=mp_lv hob km hH
 have kk':=lv_opd hnum hl k hk
 rw [kk'.noTree hn] at kk'
 have hu:=mapT_some ht
 obtain ⟨desc,hdesc⟩:=desc_of hag
 obtain ⟨q,q1,q2,q3⟩:=asking hks hag kk' es.toList kk r 0 lk.weak hr
 have hfind:=findKey_asking hdesc q1
 have hck:=checkKey_plain (P:=P) es.isEmpty 9 kt ks hks 10000 (by omega) hag (two_of kk' kk' hs)
 obtain ⟨zv,hzv,lz⟩:=zero1T_some (w:=w) (A:=A) (ι:=ι) hnum hz
 have lt:∀ b,LV fid w A ι true (.bool b) (.sc (.bool b)) []:=fun b=> .sc _ rfl
 cases r with
 | none =>
  have:=q2 rfl;subst this
  unfold getK at hd
  injection hd with hd;subst hd
  cases ok with
  | false =>
   refine ⟨zv,?_,by simpa using lz⟩
   simp [execOp,ho,em,Instr.lookup,run_underlying hu,MapKept.run_getObj_map hb,hck,hfind,hzv,Sem.run_bind]
  | true =>
   refine ⟨.tuple #[zv, .bool false],?_, .tup [zv, .bool false] _ [] (LVs.cons' lz (LVs.cons' (lt false) .nil))⟩
   simp [execOp,ho,em,Instr.lookup,run_underlying hu,MapKept.run_getObj_map hb,hck,hfind,hzv,Sem.run_bind]
 | some i =>
  obtain ⟨e,dj,f1,f2,f3,f4⟩:=q3 i rfl
  subst f2
  unfold getK at hd
  obtain ⟨dv,hdv,hd⟩:=Option.map_eq_some_iff.1 hd
  obtain ⟨v',hv',lv'⟩:=lx.get hdv
  have hve:v'=e.val:=by
   rw [List.getElem?_map,f1] at hv';simpa using hv'.symm
  subst hve
  subst hd
  cases ok with
  | false =>
   refine ⟨e.val,?_,by simpa using lv'.weak⟩
   simp [execOp,ho,em,Instr.lookup,run_underlying hu,MapKept.run_getObj_map hb,hck,hfind,Sem.run_bind]
  | true =>
   refine ⟨.tuple #[e.val, .bool true],?_, .tup [e.val, .bool true] _ [] (LVs.cons' lv'.weak (LVs.cons' (lt true) .nil))⟩
   simp [execOp,ho,em,Instr.lookup,run_underlying hu,MapKept.run_getObj_map hb,hck,hfind,Sem.run_bind]
theorem LVs.set {r:Bool} {vs:List Value} {ds:List D} (h:LVs fid w A ι r vs ds []) (i:Nat) {v:Value} {d:D} (l:LV fid w A ι r v d []):LVs fid w A ι r (vs.set i v) (ds.set i d) []:=by
 induction vs generalizing ds i with
 | nil=>cases ds with | nil=>simp;exact .nil | cons=>cases h
 | cons x vs ih =>
  cases ds with
  | nil=>cases h
  | cons e ds =>
   cases i with
   | zero=>exact LVs.cons' l h.uncons.2
   | succ i=>exact LVs.cons' h.uncons.1 (ih h.uncons.2 i)
include hnum hl hob in
theorem x_mup {t kt et:TypeId} {m k v:Operand} {ag:Bool} {ks:List Nat} {id:Nat} {kk vv:List D} {r:Option Nat} (ho:o.op = .mapUpdate t m k v∨o.op = .insert t m k v) (ht:mapT P t=some (kt,et)) (hks:leavesT P 9 kt=some ks) (hag:aggT P kt=some ag)
  (hm:okOpd m=true) (hk:okOpd k=true) (hv:okOpd v=true) (e1:ov E (opd num m) = .mp id) (hH:H[id]? = some (.mpo kk vv)) (hn:noTree (ov E (opd num k))=true) (hnv:noTree (ov E (opd num v))=true) (hro:isRO (ov E (opd num k))=true) (hrov:isRO (ov E (opd num v))=true)
  (hs:eqK ag ks (ov E (opd num k)) (ov E (opd num k))=some true) (hr:findK ag ks (ov E (opd num k)) kk=some r) :
  Does P fid w A ι H eo a o .un (some (id,putK r kk vv (ov E (opd num k)) (ov E (opd num v)))):=by
 have km:=lv_opd hnum hl m hm
 rw [e1] at km
 obtain ⟨b,es,c,em,hi,hb,lk,lx,hA⟩:=mp_lv hob km hH
 have kk':=lv_opd hnum hl k hk
 rw [kk'.noTree hn] at kk'
 have kv:=lv_opd hnum hl v hv
 rw [kv.noTree hnv] at kv
 have hu:=mapT_some ht
 obtain ⟨desc,hdesc⟩:=desc_of hag
 obtain ⟨q,q1,q2,q3⟩:=asking hks hag kk' es.toList kk r 0 lk.weak hr
 have hfind:=findKey_asking hdesc q1
 have hck:=checkKey_plain (P:=P) false 9 kt ks hks 10000 (by omega) hag (two_of kk' kk' hs)
 have X:∀ (es':Array MapEntry) (c':Nat) (kk2 vv2:List D),LVs fid w A (fun _=>none) false (es'.toList.map (·.key)) kk2 []→LVs fid w A (fun _=>none) false (es'.toList.map (·.val)) vv2 [] →
   XR fid w {w with heap:=w.heap.setIfInBounds b (.map es' c')} A A ι H eo undef .un (some (id, .mpo kk2 vv2)) []:=by
  intro es' c' kk2 vv2 l1 l2
  have K:=Keep.setMap (A:=A) (es':=es') (c':=c') hb
  refine ⟨K.mono ?_, .un _,?_,by simp,by simp⟩
  ·rintro x rfl;exact .inr ⟨id,_,rfl,hi⟩
  ·intro i o he
   injection he with he
   simp only [Prod.mk.injEq] at he
   obtain ⟨rfl,rfl⟩:=he
   refine ⟨⟨b,es',c',hi,?_,LVs.keep K (fun _ _ e=>e) l1 (by simp),LVs.keep K (fun _ _ e=>e) l2 (by simp),hA⟩,lt_of_get hH,by rw [obAt_of hH];rfl⟩
   show (w.heap.setIfInBounds b (.map es' c'))[b]? = _
   rw [Array.getElem?_setIfInBounds,if_pos rfl,if_pos (lt_of_heap hb)]
 cases r with
 | none =>
  have:=q2 rfl;subst this
  refine ⟨_,undef,_,A,[],?_, .inr ⟨rfl,rfl⟩,X (es.push {key:=a.eval k,val:=a.eval v,born:=c}) (c+1) _ _ ?_ ?_⟩
  ·have hu':(Instr.mapUpdate t (a.eval m) (a.eval k) (a.eval v)).run P w = .ok () {w with heap:=w.heap.setIfInBounds b (.map (es.push {key:=a.eval k,val:=a.eval v,born:=c}) (c+1))}:=by
    simp [em,Instr.mapUpdate,run_underlying hu,MapKept.run_getObj_map hb,hck,hfind,MapKept.run_setObj_map _ hb,Sem.run_bind]
   rcases ho with ho | ho<;>(simp only [execOp,ho];exact run_u hu')
  ·simpa using LVs.append lk (LVs.cons' (LV.ro_true kk' hro) .nil)
  ·simpa using LVs.append lx (LVs.cons' (LV.ro_true kv hrov) .nil)
 | some i =>
  obtain ⟨e,dj,f1,f2,f3,f4⟩:=q3 i rfl
  subst f2
  obtain ⟨v',hv',lv'⟩:=lk.get f3
  have hve:v'=e.key:=by
   rw [List.getElem?_map,f1] at hv';simpa using hv'.symm
  subst hve
  have hsame:=sameKey lv'.weak kk' (eqK_swap f4)
  have hst:(Instr.keyThatStays e.key (a.eval k)).run P w = .ok (a.eval k) w:=by simp [Instr.keyThatStays,hsame]
  have hei:es[i]? = some e:=by simpa using f1
  refine ⟨_,undef,_,A,[],?_, .inr ⟨rfl,rfl⟩,X (es.modify i fun x=>{x with key:=a.eval k,val:=a.eval v}) c _ _ ?_ ?_⟩
  ·have hu':(Instr.mapUpdate t (a.eval m) (a.eval k) (a.eval v)).run P w = .ok () {w with heap:=w.heap.setIfInBounds b (.map (es.modify i fun x=>{x with key:=a.eval k,val:=a.eval v}) c)}:=by
    simp [em,Instr.mapUpdate,run_underlying hu,MapKept.run_getObj_map hb,hck,hfind,hei,hst,MapKept.run_setObj_map _ hb,Sem.run_bind]
   rcases ho with ho | ho<;>(simp only [execOp,ho];exact run_u hu')
  ·have:(es.modify i fun x=>{x with key:=a.eval k,val:=a.eval v}).toList.map (·.key)=(es.toList.map (·.key)).set i (a.eval k):=by
    apply List.ext_getElem?
    intro j
    simp only [Array.toList_modify,List.getElem?_map,List.getElem?_modify,List.getElem?_set]
    by_cases hij:i=j
    ·subst hij
     have:i<es.toList.length:=by have:=(List.getElem?_eq_some_iff.1 f1).1;exact this
     simp [f1,this]
     simpa using this
    ·simp [hij]
   rw [this]
   exact lk.set i (LV.ro_true kk' hro)
  ·have:(es.modify i fun x=>{x with key:=a.eval k,val:=a.eval v}).toList.map (·.val)=(es.toList.map (·.val)).set i (a.eval v):=by
    apply List.ext_getElem?
    intro j
    simp only [Array.toList_modify,List.getElem?_map,List.getElem?_modify,List.getElem?_set]
    by_cases hij:i=j
    ·subst hij
     have:i<es.toList.length:=by have:=(List.getElem?_eq_some_iff.1 f1).1;exact this
     simp [f1,this]
     simpa using this
    ·simp [hij]
   rw [this]
   exact lx.set i (LV.ro_true kv hrov)
end
end Lg
namespace Lg
open Go
set_option linter.unusedVariables false
set_option linter.unusedSimpArgs false
set_option linter.unusedSectionVars false
section
variable {P:Program} {num:FuncId→Option Nat} {fid:Nat→FuncId} (hnum:∀ f g,num f=some g→fid g=f)
 {w:World} {A:Av} {ι:Io} {H:List Ob} {eo:List Nat} {a:Act} {E:Env} {own:Nat→List Nat} (hl:∀ t,LV fid w A ι true (a.tmps.getD t undef) (lk E t) (own t)) (hob:∀ i,ObjOK fid w A ι (ι i) (obAt H i)) {o:Oper} {d:D}
theorem zeroCells_one (z:Value) (n:Nat):(Builtin.zeroCells #[z] n).toList=List.replicate n z:=by
 apply List.ext_getElem?
 intro i
 simp only [Builtin.zeroCells,Array.toList_map,Array.toList_range,List.getElem?_map,List.getElem?_replicate]
 by_cases h:i<n
 ·simp [h,Nat.mod_one]
 ·simp [h]
theorem zero1T_cells {t:TypeId} {z:D} (hnum:∀ f g,num f=some g→fid g=f) (h:zero1T P t=some z):∃ zv,(zeroValue t).run P w = .ok zv w∧LV fid w A ι false zv z []∧zv.cells=#[zv]∧zv.oneCell'=true∧z.cells.length=1:=by
 unfold zero1T at h
 obtain ⟨v,hv,h⟩:=Option.bind_eq_some_iff.1 h
 obtain ⟨ti,hti,hzv⟩:=Option.bind_eq_some_iff.1 hv
 split at h
 ·rename_i hc
  injection h with h;subst h
  refine ⟨v,by simp [zeroValue,typeInfo,hti,hzv,Sem.run_bind],lv_leaf hnum v (by cases v<;>simp_all [cell1,notAgg]),by cases v<;>simp_all [cell1,Value.cells],by cases v<;>simp_all [cell1,Value.oneCell'],?_⟩
  unfold dLeaf
  split<;>rfl
 ·cases h
include hnum hl hob in
theorem x_clr {t e:TypeId} {x:Operand} {z:D} {up:Option (Nat×Ob)} (ho:o.op = .call {callee:= .builtin .clear,args:=#[x],argTypes:=#[t]}) (ht:P.underlying t=some (.slice e)) (hz:zero1T P e=some z)
  (hx:okOpd x=true) (h:clrD H z (ov E (opd num x))=some (d,up)):Does P fid w A ι H eo a o d up:=by
 obtain ⟨zv,hzv,lz,hzc,hz1,hzl⟩:=zero1T_cells (w:=w) (A:=A) (ι:=ι) hnum hz
 have kx:=lv_opd hnum hl x hx
 generalize ov E (opd num x)=dx at kx h
 have ltup:LV fid w A ι true (.tuple #[]) (.tup []) []:= .tup [] [] [] .nil
 have fin:∀ {w':World} {up},(Builtin.clear_ #[t] o.type #[a.eval x]).run P w = .ok (.tuple #[]) w'→XR fid w w' A A ι H eo (.tuple #[]) (.tup []) up []→Does P fid w A ι H eo a o (.tup []) up:=by
  intro w' up hrun X
  refine ⟨_,_,w',A,[],?_, .inl rfl,X⟩
  simp only [execOp,ho,resolve,invoke,builtin,Sem.run_bind,Sem.run_pure,Result.andThen_ok,List.map_toArray,List.map_cons,List.map_nil,hrun]
 unfold clrD at h
 split at h
 ·simp only [Option.some.injEq,Prod.mk.injEq] at h
  obtain ⟨rfl,rfl⟩:=h
  obtain ⟨ad,e1,_⟩:=kx.inv_sn
  refine fin ?_ (XR.val ltup)
  rw [e1]
  unfold Builtin.clear_
  cases ad<;>simp [run_underlying ht,Sem.run_bind]
 ·rename_i id sz off len
  obtain ⟨ad,cap,q,e1,e2,_,hi,g0,g1⟩:=kx.inv_rf
  split at h
  ·rename_i sz'' ds hH
   split at h
   ·rename_i hh
    obtain ⟨rfl,rfl,hle⟩:=hh
    simp only [Option.some.injEq,Prod.mk.injEq] at h
    obtain ⟨rfl,rfl⟩:=h
    have hobi:=hob id
    rw [obAt_of hH,hi] at hobi
    by_cases hm:len=0
    ·subst hm
     refine fin (w':=w) ?_ ⟨Keep.refl _ _ _,ltup,?_,List.nodup_nil,by simp⟩
     ·rw [e1]
      unfold Builtin.clear_
      cases ad<;>simp [run_underlying ht,Sem.run_bind]
     ·intro i ob hu
      simp only [Option.some.injEq,Prod.mk.injEq] at hu
      obtain ⟨rfl,rfl⟩:=hu
      refine ⟨?_,lt_of_get hH,by rw [obAt_of hH];rfl⟩
      simp only [List.replicate_zero,List.nil_append,Nat.add_zero,List.take_append_drop]
      rw [hi];exact hobi
    ·rcases hobi with ⟨eb,rfl⟩ | ⟨b,eb,cs,T,fr,vs,k1,k2,ku,k4,k5,k6,k7,k8⟩
     ·simp at hle;exfalso;omega
     ·injection eb with eb
      obtain ⟨m1,m2,cs',T',fr',m3,m4⟩:=g1 b eb
      rw [k1] at m3
      injection m3 with m3;injection m3 with m3 m5 m6
      subst m3
      rcases m1 with rfl | m1
      ·have hvl:vs.length=ds.length:=by rw [k4.length_eq,flat_len ku];omega
       have hcs:=prefix_len k6
       have hlec:off+(List.replicate len zv).length≤cs.size:=by simp;omega
       have hlev:off+(List.replicate len zv).length≤vs.length:=by simp;omega
       have hst:=run_storeCells_okfr P b off T fr (List.replicate len zv) 0 cs w k1 k2 (by simpa using hlec) (fun v hv=>by rw [(List.mem_replicate.1 hv).2];exact hz1)
       have K:=setRow_lv (fid:=fid) (A:=A) (us:=List.replicate len zv) (o:=off) k1 hlec (fun k _=>k7 rfl _)
       simp only [Nat.add_zero] at hst
       refine fin (w':=w.setRow b (cs.toList.take off++List.replicate len zv++cs.toList.drop (off+(List.replicate len zv).length)).toArray) ?_ ⟨K.mono (by rintro x rfl;exact .inr ⟨id,_,rfl,by rw [hi,eb]⟩), .tup [] [] [] .nil,?_,List.nodup_nil,by simp⟩
       ·rw [e1]
        unfold Builtin.clear_
        obtain ⟨k,rfl⟩:=Nat.exists_eq_succ_of_ne_zero hm
        simp only [Nat.mul_one] at hst ⊢
        simp [run_underlying ht,Sem.run_bind,hzv,hzc,zeroCells_one,hst]
       ·intro i ob hu
        simp only [Option.some.injEq,Prod.mk.injEq] at hu
        obtain ⟨rfl,rfl⟩:=hu
        refine ⟨?_,lt_of_get hH,by rw [obAt_of hH];rfl⟩
        have hfy:∀ n,flat (List.replicate n z)=List.replicate n z∨z.cells=[z]∨True:=fun _=> .inr (.inr trivial)
        have hzc1:flat (List.replicate len z)=List.replicate len z∨True:= .inr trivial
        have hz11:z.cells=[z]:=by
         have:z.cells.length=1:=hzl
         unfold zero1T at hz
         obtain ⟨v,hv,hz⟩:=Option.bind_eq_some_iff.1 hz
         split at hz
         ·injection hz with hz;subst hz;unfold dLeaf;split<;>rfl
         ·cases hz
        have hfr:flat (List.replicate len z)=List.replicate len z:=by
         unfold flat
         rw [List.flatMap_replicate,hz11]
         simp
        have hfl:flat (ds.take off++(List.replicate len z++ds.drop (off+len)))=(flat ds).take off++(List.replicate len z++(flat ds).drop (off+len)):=by
         have h1:=flat_take ku off
         have h2:=flat_drop ku (off+len)
         simp only [Nat.mul_one] at h1 h2
         rw [flat_app,flat_app,hfr,←h1,h2]
        have hlv':LVs fid w A (fun _=>none) false (vs.take off++List.replicate len zv++vs.drop (off+(List.replicate len zv).length)) (flat (ds.take off++(List.replicate len z++ds.drop (off+len)))) []:=by
         rw [hfl]
         have:=k4.splice (off:=off) (LVs.replicate len (lz.weak (ι':=fun _=>none) (r:=false)))
         simpa using this
        rw [hi,eb]
        refine .inr ⟨b,rfl,_,T,fr,_,setRow_heap w b _ _ T fr k1,?_,?_,LVs.keep K (fun _ _ e=>e) hlv' (by simp),?_,?_,fun _=>k7 rfl,fun off' _=>k7 rfl off'⟩
        ·have:(⟨cs.toList.take off++List.replicate len zv++cs.toList.drop (off+(List.replicate len zv).length)⟩:Array Value).size=cs.size:=by
          have:=splice_size cs.toList (List.replicate len zv) off (by simpa using hlec)
          simpa using this
         rw [this];exact k2
        ·intro x hx
         rcases List.mem_append.1 hx with hx | hx
         ·exact ku x (List.mem_of_mem_take hx)
         ·rcases List.mem_append.1 hx with hx | hx
          ·rw [(List.mem_replicate.1 hx).2];exact hzl
          ·exact ku x (List.mem_of_mem_drop hx)
        ·intro x hx
         simp only [List.mem_append] at hx
         rcases hx with (hx | hx) | hx
         ·exact k5 x (List.mem_of_mem_take hx)
         ·rw [(List.mem_replicate.1 hx).2];exact hz1
         ·exact k5 x (List.mem_of_mem_drop hx)
        ·intro k x hk
         rw [splice_get vs _ _ hlev] at hk
         have h2':(⟨cs.toList.take off++List.replicate len zv++cs.toList.drop (off+(List.replicate len zv).length)⟩:Array Value)[k]? = (cs.toList.take off++List.replicate len zv++cs.toList.drop (off+(List.replicate len zv).length))[k]?:=by simp
         rw [h2',splice_get cs.toList _ _ (by simpa using hlec)]
         split at hk
         ·rename_i hk1;rw [if_pos hk1];simpa using k6 k x hk
         ·rename_i hk1
          rw [if_neg hk1]
          split at hk
          ·rename_i hk2;rw [if_pos hk2];exact hk
          ·rename_i hk2;rw [if_neg hk2];simpa using k6 k x hk
      ·exfalso;omega
   ·cases h
  ·cases h
 ·cases h
include hnum hl in
theorem x_capn {t e:TypeId} {x:Operand} (ho:o.op = .call {callee:= .builtin .cap,args:=#[x],argTypes:=#[t]}) (ht:P.underlying t=some (.slice e)) (hx:okOpd x=true) (h:ov E (opd num x) = .sn):Pure1 P fid w A ι a o (.sc (.int .i64 0)):=by
 have kx:=lv_opd hnum hl x hx
 rw [h] at kx
 obtain ⟨ad,e1,_⟩:=kx.inv_sn
 refine ⟨.int .i64 0,?_, .sc _ rfl⟩
 simp only [execOp,ho,resolve,invoke,builtin,Sem.run_bind,Sem.run_pure,Result.andThen_ok,List.map_toArray,List.map_cons,List.map_nil]
 rw [e1]
 simp [Builtin.cap_,run_underlying ht,goInt,Sem.run_bind]
end
end Lg
namespace Lg
open Go
set_option linter.unusedVariables false
set_option linter.unusedSimpArgs false
set_option linter.unusedSectionVars false
theorem run_append_nil_zeros' {P:Program} (w:World) (t tn ty e:TypeId) (i:TypeInfo) (z:Value) (k kn:IntKind) (ad:Option Addr) (ht:P.underlying t=some (.slice e)) (htn:P.underlying tn=some (.int kn)) (hi:P.info? e=some i) (hz:i.zero=some z)
  (n:Nat) (h0:0<n) (hs:0<i.size) (h63:(n:Int)≤9223372036854775807) (h48:n*i.bytes≤281474976710656) :
  (Builtin.append_ #[t,tn] ty #[.slice ad 0 0, .int k n]).run P w =
   .ok (.slice (some ⟨w.heap.size,0,none⟩) n (grownCap w n 0 e)) (w.drew.alloc (.cells (Builtin.zeroCells z.cells n++Builtin.zeroCells z.cells (grownCap w n 0 e-n)) e)):=by
 have hn:n≠0:=by omega
 have hw:IntKind.i64.wrap (n:Int)=n:=by rw [IntKind.wrap_i64];omega
 have h63':¬(9223372036854775807<(n:Int)):=by omega
 have h48':¬(281474976710656<Builtin.nextslicecap n 0*i.bytes):=by rw [nextslicecap_zero h0];omega
 have h48i:¬(281474976710656<(n:Int)*(i.bytes:Int)):=by
  rw [←Int.natCast_mul]
  omega
 have hneg:¬((n:Int)<0):=by omega
 have hns:¬(n*i.size=0):=Nat.mul_ne_zero hn (by omega)
 have hfc:∀ w:World,(Builtin.firstCells i.size 0 (.slice ad 0 0)).run P w = .ok #[] w:=by
  intro w;cases ad<;>simp [Builtin.firstCells,loadCells,loadCellsFrom]
 simp [Builtin.append_,run_underlying ht,run_underlying htn,Go.sizeOf,typeInfo,zeroValue,hi,hz,asInt,asIntOf,hw,hn,hneg,hns,h63',h48',h48i,Question.forced,hfc,newRow,grownCap]
theorem zeroCells_rep (z:Array Value) (n:Nat) (h:0<z.size):(Builtin.zeroCells z n).toList=(List.replicate n z.toList).flatten:=by
 have:=madeCells_rep z n h
 unfold madeCells at this
 exact this
section
variable {P:Program} {num:FuncId→Option Nat} {fid:Nat→FuncId} (hnum:∀ f g,num f=some g→fid g=f)
 {w:World} {A:Av} {ι:Io} {H:List Ob} {eo:List Nat} {a:Act} {E:Env} {own:Nat→List Nat} (hl:∀ t,LV fid w A ι true (a.tmps.getD t undef) (lk E t) (own t)) {o:Oper} {d:D}
include hnum hl
theorem x_appz {t tn e:TypeId} {x y:Operand} {kn:IntKind} {sz by_ n:Nat} {z:List D} (ho:o.op = .call {callee:= .builtin .append,args:=#[x,y],argTypes:=#[t,tn]}) (ht:P.underlying t=some (.slice e)) (htn:P.underlying tn=some (.int kn)) (hs:sizeT P e=some sz) (hby:bytesT P e=some by_) (hz:zeroT P e=some z)
  (h0:0<sz) (hb0:0<by_) (hx:okOpd x=true) (hy:okOpd y=true) (hsn:ov E (opd num x) = .sn) (hj:natOf (ov E (opd num y))=some n) (hn0:0<n) (hbd:n*by_≤140737488355328) (hro:isROs z=true) (hzl:z.length=sz) (hzc:z.all isCellD=true) :
  Does P fid w A ι H eo a o (.osl true sz (List.replicate n (elemOf z))) none:=by
 have kx:=lv_opd hnum hl x hx
 rw [hsn] at kx
 obtain ⟨ad,ex,_⟩:=kx.inv_sn
 obtain ⟨k,hk⟩:=natOf_inv (lv_opd hnum hl y hy) hj
 obtain ⟨ti,zv,hti,hzv,hlz,h1⟩:=lv_zero (fid:=fid) (w:=w) (A:=A) (ι:=ι) hnum hz (r:=true)
 obtain ⟨ti2,hti2,hsz⟩:=Option.map_eq_some_iff.1 hs
 obtain ⟨ti3,hti3,hbb⟩:=Option.map_eq_some_iff.1 hby
 rw [hti] at hti2 hti3
 injection hti2 with e1;subst e1
 injection hti3 with e1;subst e1
 have hzs:zv.cells.size=sz:=by rw [←Array.length_toList,hlz.length_eq,hzl]
 have hn47:n≤140737488355328:=Nat.le_trans (Nat.le_mul_of_pos_right n hb0) hbd
 have hrun:=run_append_nil_zeros' (P:=P) w t tn o.type e ti zv k kn ad ht htn hti hzv n hn0 (by omega) (by omega) (by rw [hbb];omega)
 have hc:n≤grownCap w n 0 e:=grownCap_ge w n 0 e
 have hcells:(Builtin.zeroCells zv.cells n++Builtin.zeroCells zv.cells (grownCap w n 0 e-n))=⟨(List.replicate n zv.cells.toList).flatten++(List.replicate (grownCap w n 0 e-n) zv.cells.toList).flatten⟩:=by
  apply Array.ext'
  rw [Array.toList_append,zeroCells_rep _ _ (by omega),zeroCells_rep _ _ (by omega)]
 rw [hcells] at hrun
 have hfr:=flat_replicate n z hzc
 have hlv:LVs fid w A (fun _=>none) false (List.replicate n zv.cells.toList).flatten (flat (List.replicate n (elemOf z))) []:=by
  rw [hfr.1];exact ((hlz.ro hro).weak (ι':=fun _=>none)).reps n
 have h1':∀ v,v∈(List.replicate n zv.cells.toList).flatten→v.oneCell'=true:=by
  intro v hv
  obtain ⟨l,hl1,hl2⟩:=List.mem_flatten.1 hv
  have:=(List.mem_replicate.1 hl1).2
  subst this
  exact h1 v hl2
 have hln:((List.replicate n zv.cells.toList).flatten++(List.replicate (grownCap w n 0 e-n) zv.cells.toList).flatten).length=grownCap w n 0 e*sz:=by
  simp only [List.length_append,List.length_flatten,List.map_replicate,List.sum_replicate_nat,Array.length_toList,hzs]
  rw [←Nat.add_mul];congr 1;omega
 have K:Keep w w.drew A A (fun _=>False):=Keep.drew w A _
 have K2:=Keep.alloc w.drew A (.cells ⟨(List.replicate n zv.cells.toList).flatten++(List.replicate (grownCap w n 0 e-n) zv.cells.toList).flatten⟩ e)
 refine ⟨_,_,_,newA A w.heap.size,[w.heap.size],?_, .inl rfl,XR.new (K.trans K2 (C:=fun _=>False) (fun _ h=> .inl h) (fun _ h=> .inl h)) (LV.newRow (e:=e) K hlv h1' (fun d hd=>?_) (by simp) hc hln) (by simp) (by simp)⟩
 ·simp only [execOp,ho,resolve,invoke,builtin,Sem.run_bind,Sem.run_pure,Result.andThen_ok,List.map_toArray,List.map_cons,List.map_nil]
  rw [ex,hk]
  simp only [hrun,Result.andThen_ok,Sem.run_pure]
  rfl
 ·have:=(List.mem_replicate.1 hd).2
  subst this
  rw [hfr.2,hzl]
end
end Lg
