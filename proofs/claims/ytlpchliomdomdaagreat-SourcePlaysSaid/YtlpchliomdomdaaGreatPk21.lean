import Derived.Test.YtlpchliomdomdaaGreatPkO
import Derived.Test.YtlpchliomdomdaaGreatPk20
namespace Go.Proofs.YtlpchliomdomdaaGreat.LgTab
open Go Lg
set_option linter.unusedVariables false
set_option linter.unusedSimpArgs false
theorem u64_nat {n:Int} (h:(Lit.int .u64 n).wf=true):∃ T:Nat,n=T∧T<2 ^ 64:=by
 have e:(Lit.int .u64 n).wf=(decide (0≤n) && decide (n≤18446744073709551615)):=rfl
 rw [e] at h
 simp at h
 exact ⟨n.toNat,by omega,by omega⟩
def kevSh:Sh:= .st [.int .i64, .int .i64, .int .i64, .sl 1 false (.int .i64), .sl 1 false (.int .u8)]
theorem kev_one {d:D} (h:Fits kevSh d.cells) (h2:isAgD d=true):∃ x:Kev,d=kevD x∧∀ c,c∈x.tx→0≤c∧c≤255:=by
 cases d with
 | agg cs =>
  have f:FitsL [.int .i64, .int .i64, .int .i64, .sl 1 false (.int .i64), .sl 1 false (.int .u8)] cs:=Fits.st_inv h
  obtain ⟨a1,b1,rfl,g1,f1⟩:=f.cons_inv
  obtain ⟨kd,rfl,_⟩:=g1.int_inv
  obtain ⟨a2,b2,rfl,g2,f2⟩:=f1.cons_inv
  obtain ⟨rn,rfl,_⟩:=g2.int_inv
  obtain ⟨a3,b3,rfl,g3,f3⟩:=f2.cons_inv
  obtain ⟨fn,rfl,_⟩:=g3.int_inv
  obtain ⟨a4,b4,rfl,g4,f4⟩:=f3.cons_inv
  obtain ⟨ps,rfl,_,_⟩:=g4.ints
  obtain ⟨a5,b5,rfl,g5,f5⟩:=f4.cons_inv
  obtain ⟨tx,rfl,_,wt⟩:=g5.ints
  obtain rfl:=f5.nil_inv
  exact ⟨⟨kd,rn,fn,ps,tx⟩,rfl,fun c hc=>wf_u8 (wt c hc)⟩
 | _=>simp [isAgD] at h2
theorem kevs_inv:∀ ds:List D,(∀ d,d∈ds→Fits kevSh d.cells)→(∀ d,d∈ds→isAgD d=true∧d.cells.length=5)→∃ l:List Kev,ds=kevsD l∧∀ x,x∈l→∀ c,c∈x.tx→0≤c∧c≤255
 | [],_,_=>⟨[],rfl,by simp⟩
 | d :: ds,h,h2=>by
  obtain ⟨l,hl,hw⟩:=kevs_inv ds (fun x hx=>h x (by simp [hx])) (fun x hx=>h2 x (by simp [hx]))
  obtain ⟨x,hx,hc⟩:=kev_one (h d (by simp)) (h2 d (by simp)).1
  refine ⟨x :: l,by rw [hx,hl];rfl,fun y hy=>?_⟩
  rcases List.mem_cons.1 hy with rfl | hy
  ·exact hc
  ·exact hw y hy
theorem _root_.Lg.FitsV.kevs_inv {d:D} (h:FitsV (.sl 5 true kevSh) d):∃ l:List Kev,d = .sl 5 (kevsD l)∧∀ x,x∈l→∀ c,c∈x.tx→0≤c∧c≤255:=by
 have e:=h.2.2 (by simp)
 have f:=h.1
 rw [e] at f
 cases f with
 | sl _ _ _ ds hl q1 q2 =>
  obtain ⟨l,rfl,hw⟩:=Go.Proofs.YtlpchliomdomdaaGreat.LgTab.kevs_inv ds q1 q2
  exact ⟨l,rfl,hw⟩
end Go.Proofs.YtlpchliomdomdaaGreat.LgTab
