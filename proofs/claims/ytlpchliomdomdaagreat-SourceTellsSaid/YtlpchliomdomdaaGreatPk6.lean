import Derived.Test.YtlpchliomdomdaaGreatPk4
import Derived.Test.YtlpchliomdomdaaGreatPk5
import Derived.Lib.RuneBytes
import Derived.Shelf.Strings.BuilderK
import Derived.Shelf.Strings.BuilderRune
import Derived.Test.YtlpchliomdomdaaGreatRows
import Derived.WalkKit
import Derived.BigCall
namespace Lg
open Go Go.RowKit
set_option linter.unusedVariables false
set_option linter.unusedSimpArgs false
set_option linter.unusedSectionVars false
def celOf:D→Option Cel
 | .agg [.sc (.int .i32 r), .sc (.int .i64 k), .sc (.int .i64 f), .sc (.int .i64 b), .sc (.int .i64 g)]=>if -2147483648≤r∧r≤2147483647 then some ⟨r,k,⟨f,b,g⟩⟩ else none
 | _=>none
def celsOf:List D→Option (List Cel)
 | []=>some []
 | d :: ds=>(celOf d).bind fun c=>(celsOf ds).map fun l=>c :: l
def okRune (c:Cel):Prop:= -2147483648≤c.r∧c.r≤2147483647
theorem celOf_some {d:D} {c:Cel} (h:celOf d=some c):d=celD c∧okRune c:=by
 unfold celOf at h
 split at h
 ·split at h
  ·rename_i h0
   simp only [Option.some.injEq] at h
   subst h
   exact ⟨rfl,h0⟩
  ·cases h
 ·cases h
theorem celsOf_some:∀ {ds:List D} {l:List Cel},celsOf ds=some l→ds=celsD l∧∀ c,c∈l→okRune c
 | [],l,h=>by simp [celsOf] at h;subst h;exact ⟨rfl,by simp⟩
 | d :: ds,l,h=>by
  unfold celsOf at h
  obtain ⟨c,hc,h⟩:=Option.bind_eq_some_iff.1 h
  obtain ⟨k,hk,rfl⟩:=Option.map_eq_some_iff.1 h
  obtain ⟨rfl,hr⟩:=celOf_some hc
  obtain ⟨rfl,hs⟩:=celsOf_some hk
  refine ⟨rfl,fun x hx=>?_⟩
  rcases List.mem_cons.1 hx with rfl | hx
  ·exact hr
  ·exact hs x hx
def textL (l:List Cel):List UInt8:=l.flatMap fun c=>if c.k=2 then [] else Lib.encodeRune c.r
def textM:List D→Option (D×List D)
 | [.agg [.sc (.int .i64 rows), .sc (.int .i64 cols), .sl sz ds], .sc (.int .i64 r)]=>(celsOf ds).bind fun l =>
   if sz=5∧0≤r∧r<rows∧0<cols∧(r.toNat+1)*cols.toNat≤l.length∧l.length≤100000∧rows≤10000∧cols≤10000 then some (S (textL ((l.drop (r.toNat*cols.toNat)).take cols.toNat)),[]) else none
 | _=>none
def CelsAt (w:World) (b o:Nat) (l:List Cel):Prop:=∀ (j:Nat) (c:Cel),l[j]? = some c→(-2147483648≤c.r∧c.r≤2147483647)∧w.cell? ⟨b,o+j*5,none⟩=some (.int .i32 c.r)∧w.cell? ⟨b,o+j*5+1,none⟩=some (.int .i64 c.k) ∧
 w.cell? ⟨b,o+j*5+2,none⟩=some (.int .i64 c.p.f)∧w.cell? ⟨b,o+j*5+3,none⟩=some (.int .i64 c.p.b)∧w.cell? ⟨b,o+j*5+4,none⟩=some (.int .i64 c.p.g)
theorem flat_cels (l:List Cel):flat (celsD l)=l.flatMap fun c=>[R c.r,I c.k,I c.p.f,I c.p.b,I c.p.g]:=by
 induction l with
 | nil=>rfl
 | cons c l ih=>unfold flat celsD at ih ⊢;simp only [List.map_cons,List.flatMap_cons,ih];rfl
theorem flatC_get (l:List Cel) (j i:Nat) (hi:i<5) (c:Cel) (h:l[j]? = some c):(l.flatMap fun c=>([R c.r,I c.k,I c.p.f,I c.p.b,I c.p.g]:List D))[j*5+i]? = [R c.r,I c.k,I c.p.f,I c.p.b,I c.p.g][i]?:=by
 induction l generalizing j with
 | nil=>simp at h
 | cons x l ih =>
  rw [List.flatMap_cons]
  cases j with
  | zero =>
   simp only [List.getElem?_cons_zero,Option.some.injEq] at h
   subst h
   rw [List.getElem?_append_left (by simpa using hi)]
   simp
  | succ j =>
   rw [List.getElem?_append_right (by simp;omega)]
   have e:(j+1)*5+i - [R x.r,I x.k,I x.p.f,I x.p.b,I x.p.g].length=j*5+i:=by simp;omega
   rw [e]
   exact ih j (by simpa using h)
theorem text_sound {P:Program} {fid:Nat→FuncId} {f:FuncId}
  (h:∀ (rows cols r:Nat) (b o n cap:Nat) (l:List Cel) (w:World),r<rows→0<cols→l.length=cols→(r+1)*cols≤n→n≤cap→n≤100000→rows≤10000→cols≤10000→CelsAt w b (o+r*cols*5) l →
   Calls P f #[.agg #[.int .i64 rows, .int .i64 cols, .slice (some ⟨b,o,none⟩) n cap], .int .i64 r] w fun e w'=>e = .returned (.string ⟨(textL l).toArray⟩)∧Below w.heap.size w w') :
  SoundFn P fid f textM:=by
 intro ds r outs hm w A vs O l nd hal
 unfold textM at hm
 split at hm
 case h_2=>cases hm
 rename_i rows cols sz es rr
 obtain ⟨cs,hcs,hm⟩:=Option.bind_eq_some_iff.1 hm
 split at hm
 case isFalse=>cases hm
 rename_i hc
 obtain ⟨hsz,h0,h1,h2,h3,h4,h5,h6⟩:=hc
 simp only [Option.some.injEq,Prod.mk.injEq] at hm
 obtain ⟨rfl,rfl⟩:=hm
 subst hsz
 obtain ⟨rfl,hok⟩:=celsOf_some hcs
 cases l with
 | cons v _ O1 vs _ O2 lv l2 =>
  cases l2 with
  | cons v2 _ O3 vs2 _ O4 lv2 l3 =>
   cases l3
   obtain ⟨rfl,rfl⟩:=lv2.inv_int
   obtain ⟨us,rfl,lu⟩:=lv.inv_agg
   cases lu with
   | cons u0 _ Oa us _ Ob lu0 lu =>
   cases lu with
   | cons u1 _ Oc us _ Od lu1 lu =>
   cases lu with
   | cons u2 _ Oe us _ Of lu2 lu =>
   cases lu
   obtain ⟨rfl,rfl⟩:=lu0.inv_int
   obtain ⟨rfl,rfl⟩:=lu1.inv_int
   obtain ⟨a,cap,us,rfl,rfl,hcap,_,hl,_,hr⟩:=lu2.inv_sl
   rw [flat_cels] at hl
   have hcell:∀ (j i:Nat) (c:Cel) (d:D),i<5→cs[j]? = some c→[R c.r,I c.k,I c.p.f,I c.p.b,I c.p.g][i]? = some d→∃ ad u,a=some ad∧w.cell? (ad.add (j*5+i))=some u∧LV fid w A (fun _=>none) false u d []:=by
    intro j i c d hi hj hd
    obtain ⟨u,hu,lu⟩:=hl.get (k:=j*5+i) (by rw [flatC_get cs j i hi c hj];exact hd)
    obtain ⟨ad,e,_,hc⟩:=hr _ _ hu
    exact ⟨ad,u,e,hc,lu⟩
   have hpos:0<cs.length:=by
    have:1*1≤(rr.toNat+1)*cols.toNat:=Nat.mul_le_mul (by omega) (by omega)
    omega
   obtain ⟨c0,hc0⟩:∃ c,cs[0]? = some c:=⟨_,List.getElem?_eq_getElem hpos⟩
   obtain ⟨⟨b,o,sp⟩,u,rfl,hcu,_⟩:=hcell 0 0 c0 _ (by omega) hc0 rfl
   have hsp:sp=none:=by
    cases sp with
    | none=>rfl
    | some s =>
     exfalso
     unfold Addr.add at hcu
     simp only [Nat.zero_mul,Nat.zero_add,if_true] at hcu
     unfold World.cell? at hcu
     split at hcu<;>simp at hcu
   subst hsp
   have hrow:((rr.toNat:Nat):Int)=rr:=by omega
   have hrows:((rows.toNat:Nat):Int)=rows:=by omega
   have hcols:((cols.toNat:Nat):Int)=cols:=by omega
   have hlen:((cs.drop (rr.toNat*cols.toNat)).take cols.toNat).length=cols.toNat:=by
    have:(rr.toNat+1)*cols.toNat=rr.toNat*cols.toNat+cols.toNat:=by rw [Nat.add_mul];omega
    rw [List.length_take,List.length_drop]
    omega
   have main:=h rows.toNat cols.toNat rr.toNat b o cs.length cap ((cs.drop (rr.toNat*cols.toNat)).take cols.toNat) w (by omega) (by omega) hlen h3 (by simpa using hcap) h4 (by omega) (by omega) (by
    intro j c hj
    have hj':cs[rr.toNat*cols.toNat+j]? = some c:=by
     rw [List.getElem?_take] at hj
     split at hj
     ·rw [List.getElem?_drop] at hj
      exact hj
     ·cases hj
    have hmem:=hok c (List.mem_of_getElem? hj')
    have g:=fun i d hi hd=>hcell (rr.toNat*cols.toNat+j) i c d hi hj' hd
    have e:∀ i,o+rr.toNat*cols.toNat*5+j*5+i=o+((rr.toNat*cols.toNat+j)*5+i):=by intro i;rw [Nat.add_mul];omega
    have pick:∀ (i:Nat) (d:D),i<5→[R c.r,I c.k,I c.p.f,I c.p.b,I c.p.g][i]? = some d→∃ u,w.cell? ⟨b,o+rr.toNat*cols.toNat*5+j*5+i,none⟩=some u∧LV fid w A (fun _=>none) false u d []:=by
     intro i d hi hd
     obtain ⟨ad,u,e1,e2,e3⟩:=g i d hi hd
     injection e1 with e1
     subst e1
     rw [addr_add] at e2
     exact ⟨u,by rw [e i];exact e2,e3⟩
    obtain ⟨u0,p0,q0⟩:=pick 0 _ (by omega) rfl
    obtain ⟨u1,p1,q1⟩:=pick 1 _ (by omega) rfl
    obtain ⟨u2,p2,q2⟩:=pick 2 _ (by omega) rfl
    obtain ⟨u3,p3,q3⟩:=pick 3 _ (by omega) rfl
    obtain ⟨u4,p4,q4⟩:=pick 4 _ (by omega) rfl
    rw [q0.inv_int.1] at p0
    rw [q1.inv_int.1] at p1
    rw [q2.inv_int.1] at p2
    rw [q3.inv_int.1] at p3
    rw [q4.inv_int.1] at p4
    exact ⟨hmem,p0,p1,p2,p3,p4⟩)
   rw [hrow,hrows,hcols] at main
   have hn:(celsD cs).length=cs.length:=celsD_len cs
   rw [hn]
   refine Calls.mono main fun e w' he=>?_
   obtain ⟨rfl,hb⟩:=he
   exact ⟨_,A,[],rfl,keep_below A _ hb hal,LVs.cons' (.sc _ rfl) .nil,List.nodup_nil,by simp⟩
end Lg
namespace Go.Proofs.YtlpchliomdomdaaGreat.LgText
open Go.Shelf Go.RowKit Go.Proofs
set_option linter.unusedVariables false
set_option linter.unusedSimpArgs false
def ren169:Go.Shelf.Ren:=⟨fun | 169=>129 | n=>n,fun | 70=>148 | 9=>9 | 0=>0 | 72=>150 | 37=>30 | 127=>189 | 3=>3 | 5=>5 | n=>n,fun | n=>n⟩
theorem lays169:Go.Proofs.Lays.n169 Tryz.prog ren169:={
 mixed:=by kernel_rfl
 f169:=Tryz.func129.trans (congrArg some (by kernel_rfl))
 t0:=Tryz.underlying0
 a0:=Tryz.isAgg0
 z0:=Tryz.sizeOf0
 v0:=Tryz.zeroValue0
 t3:=Tryz.underlying3
 a3:=Tryz.isAgg3
 z3:=Tryz.sizeOf3
 v3:=Tryz.zeroValue3
 t9:=Tryz.underlying9
 a9:=Tryz.isAgg9
 z9:=Tryz.sizeOf9
 v9:=Tryz.zeroValue9
 t37:=Tryz.underlying30
 a37:=Tryz.isAgg30
 z37:=Tryz.sizeOf30
 v37:=Tryz.zeroValue30
 t70:=Tryz.underlying148
 a70:=Tryz.isAgg148
 z70:=Tryz.sizeOf148
 v70:=Tryz.zeroValue148
 t72:=Tryz.underlying150
 a72:=Tryz.isAgg150
 z72:=Tryz.sizeOf150
 v72:=Tryz.zeroValue150
 t127:=Tryz.underlying189
 a127:=Tryz.isAgg189
 z127:=Tryz.sizeOf189
 v127:=Tryz.zeroValue189}
theorem extra169:Builder.Extra Tryz.prog ren169:={
 sizeBuilder:=by kernel_rfl
 liesBuilder:=by kernel_rfl
 t5:=Tryz.underlying5
 a5:=Tryz.isAgg5
 z5:=Tryz.sizeOf5
 v5:=Tryz.zeroValue5
 infoByte:=by kernel_rfl
 cellsByte:=by kernel_rfl
 sizeByte:=by kernel_rfl
 neB5:=by decide}
def ren242:Go.Shelf.Ren:=⟨fun | 242=>184 | 278=>213 | n=>n,fun | 37=>30 | 21=>21 | 51=>211 | 4=>4 | 72=>150 | 5=>5 | 46=>135 | n=>n,fun | n=>n⟩
theorem lays242:Go.Proofs.Lays.n242 Tryz.prog ren242:={
 mixed:=by kernel_rfl
 f242:=Tryz.func184.trans (congrArg some (by kernel_rfl))
 f278:=Tryz.func213.trans (congrArg some (by kernel_rfl))
 t4:=Tryz.underlying4
 a4:=Tryz.isAgg4
 z4:=Tryz.sizeOf4
 v4:=Tryz.zeroValue4
 t5:=Tryz.underlying5
 a5:=Tryz.isAgg5
 z5:=Tryz.sizeOf5
 v5:=Tryz.zeroValue5
 t21:=Tryz.underlying21
 a21:=Tryz.isAgg21
 z21:=Tryz.sizeOf21
 v21:=Tryz.zeroValue21
 t37:=Tryz.underlying30
 a37:=Tryz.isAgg30
 z37:=Tryz.sizeOf30
 v37:=Tryz.zeroValue30
 t46:=Tryz.underlying135
 a46:=Tryz.isAgg135
 z46:=Tryz.sizeOf135
 v46:=Tryz.zeroValue135
 t51:=Tryz.underlying211
 a51:=Tryz.isAgg211
 z51:=Tryz.sizeOf211
 v51:=Tryz.zeroValue211}
theorem extra242:Builder.Extra Tryz.prog ren242:={
 sizeBuilder:=by kernel_rfl
 liesBuilder:=by kernel_rfl
 t5:=Tryz.underlying5
 a5:=Tryz.isAgg5
 z5:=Tryz.sizeOf5
 v5:=Tryz.zeroValue5
 infoByte:=by kernel_rfl
 cellsByte:=by kernel_rfl
 sizeByte:=by kernel_rfl
 neB5:=by decide}
set_option maxHeartbeats 1000000 in
set_option maxRecDepth 100000 in
theorem cc_used (b:Nat) (w:World) (h0:w.cell? ⟨b,0,none⟩=some (.pointer (some ⟨b,0,none⟩))) :
  Calls Tryz.prog 183 #[.pointer (some ⟨b,0,none⟩)] w fun e w'=>e = .returned (.tuple #[])∧w'=w:=by
 obtain ⟨j,hj,_⟩:=Option.map_eq_some_iff.1 extra169.sizeBuilder
 go_enter Tryz.func183,Tryz.ntmps183
 go_wp2
 rw [Lib.run_neq_ptr_same w _ Tryz.underlying148 hj]
 go_wp2
 go_end0
 exact ⟨rfl,rfl⟩
set_option maxHeartbeats 1000000 in
set_option maxRecDepth 100000 in
theorem cc_fresh (b:Nat) (w:World) (h0:w.cell? ⟨b,0,none⟩=some (.pointer none)) (hsh:w.shape? b=some (150,2)) (hfz:w.frozen? ⟨b,0,none⟩=false) :
  Calls Tryz.prog 183 #[.pointer (some ⟨b,0,none⟩)] w fun e w'=>e = .returned (.tuple #[])∧w'=w.setCell ⟨b,0,none⟩ (.pointer (some ⟨b,0,none⟩)):=by
 obtain ⟨j,hj,hjs⟩:=Option.map_eq_some_iff.1 extra169.sizeBuilder
 go_enter Tryz.func183,Tryz.ntmps183
 go_wp2
 rw [Lib.run_to_unsafe w ⟨b,0,none⟩ Tryz.underlying148 Tryz.underlying209 hj (by rw [hjs];decide) hsh (Nat.zero_lt_succ 1)]
 simp only [Result.andThen]
 rw [Oper.upon_value]
 go_wp2
 rw [run_callFunc_extern Tryz.func212 (by kernel_rfl) (by kernel_rfl) (by kernel_rfl) (e:=Extern.AbiNoEscape.same) (by kernel_rfl)]
 rw [Lib.run_noEscape]
 simp only [Result.andThen]
 rw [Oper.upon_value]
 go_wp2
 rw [Lib.run_from_unsafe w ⟨b,0,none⟩ Tryz.underlying209 Tryz.underlying148 hj hsh extra169.liesBuilder]
 simp only [Result.andThen]
 rw [Oper.upon_value]
 go_wp2
 go_end0
 exact ⟨rfl,rfl⟩
theorem copyCheck (B b:Nat) (bs:List Value) (w:World) (h:Lib.IsBuilderF 150 5 B b bs w) :
  Calls Tryz.prog 183 #[.pointer (some ⟨b,0,none⟩)] w fun e w'=>e = .returned (.tuple #[])∧(Lib.BuilderAtF 150 5 B b (.pointer (some ⟨b,0,none⟩)) bs w'∧Below B w w'∧Lib.OthersKept 5 (some b) w w'):=by
 rcases h with h | h
 ·refine (cc_fresh b w h.cell0 h.shape h.frozen0).mono ?_
  rintro e w' ⟨rfl,rfl⟩
  exact ⟨rfl,h.used _,(Below.refl _ w).setCell (p:=⟨b,0,none⟩) h.1 _,(Lib.OthersKept.refl _ _ w).setCell ⟨b,0,none⟩ rfl _⟩
 ·refine (cc_used b w h.cell0).mono ?_
  rintro e w' ⟨rfl,rfl⟩
  exact ⟨rfl,h,Below.refl _ _,Lib.OthersKept.refl _ _ _⟩
set_option maxHeartbeats 4000000 in
set_option maxRecDepth 100000 in
theorem writeRune (B b:Nat) (bs:List Value) (r:Int) (hr0 : -2147483648≤r) (hr1:r≤2147483647) (w:World) (h:Lib.IsBuilderF 150 5 B b bs w) (hlen:bs.length+4≤140737488355328) (hBw:B≤w.heap.size) :
  Calls Tryz.prog 128 #[.pointer (some ⟨b,0,none⟩), .int .i32 r] w fun e w'=>e = .returned (.tuple #[.int .i64 (Lib.runeCells r).length, .nilIface])∧(Lib.BuilderAtF 150 5 B b (.pointer (some ⟨b,0,none⟩)) (bs++Lib.runeCells r) w'∧Below B w w'∧Lib.OthersKept 5 (some b) w w'):=by
 have hk4:=Lib.runeCells_le r
 go_enter Tryz.func128,Tryz.ntmps128
 go_wp2_with (go_at_call 183;refine (copyCheck B b bs _ h).mono ?_)
 rintro e w1 ⟨rfl,h1,hb1,hk1⟩
 obtain ⟨hB,v,hbk,hown,hne⟩:=h1
 obtain ⟨ao,cap,rfl⟩:∃ ao cap,v = .slice ao bs.length cap:=by
  rcases hown.2 with ⟨hv,h0⟩ | ⟨g,cap,cur,fz,hv,_⟩
  ·exact ⟨none,0,by rw [hv,h0]⟩
  ·exact ⟨_,_,hv⟩
 have c0:w1.cell? ⟨b,0,none⟩=some (.pointer (some ⟨b,0,none⟩)):=by rw [Lib.cell_of_heap hbk];rfl
 have c1:w1.cell? ⟨b,1,none⟩=some (.slice ao bs.length cap):=by rw [Lib.cell_of_heap hbk];rfl
 go_wp2_with (go_at_call 184;refine (Any.utf8_AppendRune_own lays242 extra242 B _ bs.length bs r hr0 hr1 _ hown hlen (by have:=hb1.size;omega)).mono ?_)
 rintro e w2 ⟨v',rfl,hown',o,hgrow⟩
 have hlt:b<w1.heap.size:=by
  rcases Nat.lt_or_ge b w1.heap.size with h' | h'
  ·exact h'
  ·simp [Array.getElem?_eq_none h'] at hbk
 have hb2:w2.heap[b]? = some (.cells #[.pointer (some ⟨b,0,none⟩), .slice ao bs.length cap] 150 (0,0)):=by
  rw [hgrow.block b (by simp;omega) (fun e=>hne e.symm),Lib.alloc_old w1 _ b hlt]
  exact hbk
 have d0:w2.cell? ⟨b,0,none⟩=some (.pointer (some ⟨b,0,none⟩)):=by rw [Lib.cell_of_heap hb2];rfl
 have d1:w2.cell? ⟨b,1,none⟩=some (.slice ao bs.length cap):=by rw [Lib.cell_of_heap hb2];rfl
 have f1:w2.frozen? ⟨b,1,none⟩=false:=Lib.frozen_of_heap hb2 1
 obtain ⟨g,cap',rfl⟩:∃ g cap',v' = .slice (some ⟨g,0,none⟩) (bs.length+(Lib.runeCells r).length) cap':=by
  rcases hown'.2 with ⟨_,h0⟩ | ⟨g,cap',cur,fz,hv,_⟩
  ·omega
  ·exact ⟨g,cap',hv⟩
 go_wp2
 go_ret2
 refine ⟨?_,?_,?_,((hk1.alloc _).grown hgrow (Lib.ownsRowF_kind (hown.alloc _))).setCell ⟨b,1,none⟩ rfl _⟩
 ·have e:((bs.length:Int)+((Lib.runeCells r).length:Int)-(bs.length:Int))=((Lib.runeCells r).length:Int):=by omega
  simp [e]
 ·exact Lib.BuilderAtF.put (T:=150) (e:=5) hB hb2 (bs':=bs++Lib.runeCells r) (by rw [List.length_append];exact hown') (by decide)
 ·exact ((hb1.alloc (by have:=hb1.size;omega) _).grown hgrow (by have:=hb1.size;simp;omega) (fun k hk=>(hown.lt k hk).1)).setCell (p:=⟨b,1,none⟩) hB _
set_option maxHeartbeats 2000000 in
set_option maxRecDepth 100000 in
theorem place_walk (rows cols r:Int) (v:Value) (w:World) (h0:0≤r) (h1:r<rows) (h2:0<cols) :
  Calls Tryz.prog 127 #[.agg #[.int .i64 rows, .int .i64 cols,v], .int .i64 r, .int .i64 0] w fun e w'=>e = .returned (.bool true)∧w'=w.alloc (.cells #[.int .i64 rows, .int .i64 cols,v] 37):=by
 go_enter Tryz.func127,Tryz.ntmps127
 go_wp2
 go_ret
 exact ⟨rfl,rfl⟩
set_option maxHeartbeats 2000000 in
set_option maxRecDepth 100000 in
theorem row_walk (rows cols r A Z:Int) (b o n cap A' L K:Nat) (w:World) (h0:wrap64 (r*cols)=A) (h1:wrap64 (wrap64 (r+1)*cols)=Z) (h2:0≤A) (h3:A≤Z) (h4:Z≤cap) (h5:A<cap) (hA':A.toNat=A') (hL:Z.toNat-A.toNat=L) (hK:cap-A.toNat=K) :
  Calls Tryz.prog 124 #[.agg #[.int .i64 rows, .int .i64 cols, .slice (some ⟨b,o,none⟩) n cap], .int .i64 r] w fun e w'=>e = .returned (.slice (some ⟨b,o+A'*5,none⟩) L K)∧w'=w.alloc (.cells #[.int .i64 rows, .int .i64 cols, .slice (some ⟨b,o,none⟩) n cap] 37):=by
 go_enter Tryz.func124,Tryz.ntmps124
 go_wp2
 go_ret
 subst hA' hL hK
 exact ⟨rfl,rfl⟩
open Lg in
set_option maxHeartbeats 4000000 in
set_option maxRecDepth 100000 in
theorem text_walk (rows cols r:Nat) (b o n cap:Nat) (l:List Cel) (w:World) (hr:r<rows) (hc:0<cols) (hl:l.length=cols) (hn:(r+1)*cols≤n) (hcap:n≤cap) (hb:n≤100000) (hrow:rows≤10000) (hcol:cols≤10000)
  (hcell:CelsAt w b (o+r*cols*5) l) :
  Calls Tryz.prog 57 #[.agg #[.int .i64 rows, .int .i64 cols, .slice (some ⟨b,o,none⟩) n cap], .int .i64 r] w fun e w'=>e = .returned (.string ⟨(textL l).toArray⟩)∧Below w.heap.size w w':=by
 obtain ⟨A,hA⟩:∃ A,A=r*cols:=⟨_,rfl⟩
 have hA1:(r+1)*cols=A+cols:=by rw [hA,Nat.add_mul];omega
 have eA:(r:Int)*(cols:Int)=(A:Int):=by rw [hA];simp
 have eA1:((r:Int)+1)*(cols:Int)=((A+cols:Nat):Int):=by rw [←hA1];simp
 rw [hA1] at hn
 rw [←hA] at hcell
 have w1:wrap64 ((r:Int)*(cols:Int))=(A:Int):=by rw [eA];unfold wrap64;omega
 have w0:wrap64 ((r:Int)+1)=(r:Int)+1:=by unfold wrap64;omega
 have w2:wrap64 (wrap64 ((r:Int)+1)*(cols:Int))=((A+cols:Nat):Int):=by rw [w0,eA1];unfold wrap64;omega
 clear eA eA1 hA1 w0 hA
 go_enter Tryz.func57,Tryz.ntmps57
 go_wp2_with (go_at_call 127;refine (place_walk rows cols r _ _ (by omega) (by omega) (by omega)).mono ?_)
 rintro e wa ⟨rfl,rfl⟩
 go_wp2_with (go_at_call 124;refine (row_walk rows cols r A (A+cols:Nat) b o n cap A cols (cap-A) _ w1 w2 (by omega) (by omega) (by omega) (by omega) (by omega) (by omega) (by omega)).mono ?_)
 rintro e wb ⟨rfl,rfl⟩
 go_wp2
 go_loopw [16] (fun i wr=>∃ (k:Nat) (acc:List UInt8),i = .int .i64 k∧k≤cols∧Lib.IsBuilderF 150 5 (w.heap.size+1+1) (w.heap.size+1+1) (Lib.byteCells acc) wr∧Below w.heap.size w wr∧acc=textL (l.take k)∧acc.length≤4*k) (fun i _=>cols-(intOf i).toNat)
 case atStart =>
  have h0:=(Lib.IsBuilderF.of (Lib.fresh_isBuilder 150 5 ((w.alloc (.cells #[.int .i64 rows, .int .i64 cols, .slice (some ⟨b,o,none⟩) n cap] 37)).alloc (.cells #[.int .i64 rows, .int .i64 cols, .slice (some ⟨b,o,none⟩) n cap] 37)))).alloc (.cells #[.int .i64 rows, .int .i64 cols, .slice (some ⟨b,o,none⟩) n cap] 37)
  have h1:=(((Below.refl w.heap.size w).alloc (Nat.le_refl _) (.cells #[.int .i64 rows, .int .i64 cols, .slice (some ⟨b,o,none⟩) n cap] 37)).alloc (by simp) (.cells #[.int .i64 rows, .int .i64 cols, .slice (some ⟨b,o,none⟩) n cap] 37)).alloc (by simp;omega) (.cells #[.pointer none, .slice none 0 0] 150)
  exact ⟨0,[],rfl,Nat.zero_le _,by simpa [Lib.byteCells] using h0,h1.alloc (by simp;omega) _,rfl,by simp⟩
 case round =>
  obtain ⟨k,acc,rfl,hk,hI,hbw,hacc,hal⟩:=hrel
  by_cases hlt:k<cols
  ·obtain ⟨c,hc⟩:∃ c,l[k]? = some c:=⟨_,List.getElem?_eq_getElem (by omega)⟩
   obtain ⟨⟨q0,q1⟩,d0,d1,d2,d3,d4⟩:=hcell k c hc
   have hbs:b<w.heap.size:=World.block_lt_of_cell? w _ d0
   have m:∀ i,wr.cell? ⟨b,i,none⟩=w.cell? ⟨b,i,none⟩:=fun i=>hbw.cell (p:=⟨b,i,none⟩) hbs
   rw [←m] at d0 d1 d2 d3 d4
   clear m
   have hlt':(k:Int)<cols:=by omega
   have htk:l.take (k+1)=l.take k++[c]:=take_snoc hc
   have hsz:=hbw.size
   have hB:w.heap.size+1+1≤wr.heap.size:=by
    have:w.heap.size+1+1<wr.heap.size:=by rcases hI with h | h<;>exact h.lt
    omega
   by_cases h2:c.k=2
   ·go_wp2
    go_roundw
    case rel=>exact ⟨k+1,acc,by simp,by omega,hI.alloc _,hbw.alloc hsz _,by rw [htk,hacc];simp [textL,h2],by omega⟩
    case measure =>
     simp [intOf]
     omega
   ·go_wp2_with (go_at_call 128;refine (writeRune (w.heap.size+1+1) (w.heap.size+1+1) (Lib.byteCells acc) c.r q0 q1 _ (hI.alloc _) (by rw [Lib.byteCells_length];omega) (by simp;omega)).mono ?_)
    rintro e W1 ⟨rfl,h1,b1,k1⟩
    go_wp2
    go_roundw
    case rel =>
     have hl4:=(Lib.runeCells_le c.r).2
     rw [Lib.runeCells_length] at hl4
     exact ⟨k+1,acc++Lib.encodeRune c.r,by simp,by omega,by rw [Lib.byteCells_append,Lib.byteCells_encodeRune];exact Or.inr h1,(hbw.alloc hsz _).trans (b1.mono (by omega)),by rw [htk,hacc];simp [textL,h2],by simp;omega⟩
    case measure =>
     simp [intOf]
     omega
  ·have hkc:k=cols:=by omega
   subst hkc
   have hB:w.heap.size+1+1≤wr.heap.size:=by
    have:w.heap.size+1+1<wr.heap.size:=by rcases hI with h | h<;>exact h.lt
    omega
   go_wp2_with (go_at_call 129;refine (Any.Builder_String_any_k lays169 extra169 (w.heap.size+1+1) (w.heap.size+1+1) acc _ hI (by omega)).mono ?_)
   rintro e W1 ⟨rfl,_,b1,_⟩
   go_wp2
   go_ret
   rw [List.take_of_length_le (by omega)] at hacc
   subst hacc
   refine ⟨?_,hbw.trans (b1.mono (by omega))⟩
   rw [List.take_of_length_le (by omega)]
   rfl
theorem text_ok (fid:Nat→FuncId):Lg.SoundFn Tryz.prog fid 57 Lg.textM :=
 Lg.text_sound fun rows cols r b o n cap l w h1 h2 h3 h4 h5 h6 h7 h8 h9=>text_walk rows cols r b o n cap l w h1 h2 h3 h4 h5 h6 h7 h8 h9
end Go.Proofs.YtlpchliomdomdaaGreat.LgText
