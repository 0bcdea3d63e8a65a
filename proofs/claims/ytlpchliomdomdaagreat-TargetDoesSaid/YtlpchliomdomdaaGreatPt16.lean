import Derived.Test.YtlpchliomdomdaaGreatPt15
namespace Go.Proofs.YtlpchliomdomdaaGreat.LgTab
open Go Lg
set_option linter.unusedVariables false
set_option linter.unusedSimpArgs false
set_option maxRecDepth 8000
def isMove (f:Int):Bool:=[65,66,67,68,69,70,71,96,100,72,102].contains f
def isChg (f:Int):Bool:=[74,75,64,80,88].contains f
def isRows (f:Int):Bool:=[76,77,83,84].contains f
noncomputable def csiS (s:Sc) (e:Ev):Sc :=
 if e.it≠0 then s else if e.pr=63 then setS s e else if e.pr≠0 then s
 else if isMove e.fi then moveS s e
 else if isChg e.fi then chgS s e
 else if isRows e.fi then rowsS s e
 else if e.fi=109 then {s with p:=applyM s.p e.par}
 else if e.fi=114 then margS s e
 else if e.fi=103 then dropS s (argI e.par 0 0 0 65535)
 else if e.fi=115 then saveS s
 else if e.fi=117 then restS s else s
set_option maxHeartbeats 4000000 in
theorem sp405_65 (k:Nat) (s:Sc) (o:OkS s) (ek er:Int) (ps:Option (List Int)) (et:List UInt8) (hl:(ps.getD []).length≤100000):evFun (clOf (modsR tab (k+7)) 3) s405 [scD s,evD ⟨ek,er,0,0,65,ps,et⟩]=some (scD (moveS s ⟨ek,er,0,0,65,ps,et⟩),[]):=by
 have v:=fun q=>sp413 q s o ⟨ek,er,0,0,65,ps,et⟩
 generalize moveS s ⟨ek,er,0,0,65,ps,et⟩=S' at *
 rw [evFun_evB rfl]
 unfold s405
 simp -implicitDefEqProofs [cw413,v]
set_option maxHeartbeats 4000000 in
theorem sp405_66 (k:Nat) (s:Sc) (o:OkS s) (ek er:Int) (ps:Option (List Int)) (et:List UInt8) (hl:(ps.getD []).length≤100000):evFun (clOf (modsR tab (k+7)) 3) s405 [scD s,evD ⟨ek,er,0,0,66,ps,et⟩]=some (scD (moveS s ⟨ek,er,0,0,66,ps,et⟩),[]):=by
 have v:=fun q=>sp413 q s o ⟨ek,er,0,0,66,ps,et⟩
 generalize moveS s ⟨ek,er,0,0,66,ps,et⟩=S' at *
 rw [evFun_evB rfl]
 unfold s405
 simp -implicitDefEqProofs [cw413,v]
set_option maxHeartbeats 4000000 in
theorem sp405_67 (k:Nat) (s:Sc) (o:OkS s) (ek er:Int) (ps:Option (List Int)) (et:List UInt8) (hl:(ps.getD []).length≤100000):evFun (clOf (modsR tab (k+7)) 3) s405 [scD s,evD ⟨ek,er,0,0,67,ps,et⟩]=some (scD (moveS s ⟨ek,er,0,0,67,ps,et⟩),[]):=by
 have v:=fun q=>sp413 q s o ⟨ek,er,0,0,67,ps,et⟩
 generalize moveS s ⟨ek,er,0,0,67,ps,et⟩=S' at *
 rw [evFun_evB rfl]
 unfold s405
 simp -implicitDefEqProofs [cw413,v]
set_option maxHeartbeats 4000000 in
theorem sp405_68 (k:Nat) (s:Sc) (o:OkS s) (ek er:Int) (ps:Option (List Int)) (et:List UInt8) (hl:(ps.getD []).length≤100000):evFun (clOf (modsR tab (k+7)) 3) s405 [scD s,evD ⟨ek,er,0,0,68,ps,et⟩]=some (scD (moveS s ⟨ek,er,0,0,68,ps,et⟩),[]):=by
 have v:=fun q=>sp413 q s o ⟨ek,er,0,0,68,ps,et⟩
 generalize moveS s ⟨ek,er,0,0,68,ps,et⟩=S' at *
 rw [evFun_evB rfl]
 unfold s405
 simp -implicitDefEqProofs [cw413,v]
set_option maxHeartbeats 4000000 in
theorem sp405_69 (k:Nat) (s:Sc) (o:OkS s) (ek er:Int) (ps:Option (List Int)) (et:List UInt8) (hl:(ps.getD []).length≤100000):evFun (clOf (modsR tab (k+7)) 3) s405 [scD s,evD ⟨ek,er,0,0,69,ps,et⟩]=some (scD (moveS s ⟨ek,er,0,0,69,ps,et⟩),[]):=by
 have v:=fun q=>sp413 q s o ⟨ek,er,0,0,69,ps,et⟩
 generalize moveS s ⟨ek,er,0,0,69,ps,et⟩=S' at *
 rw [evFun_evB rfl]
 unfold s405
 simp -implicitDefEqProofs [cw413,v]
set_option maxHeartbeats 4000000 in
theorem sp405_70 (k:Nat) (s:Sc) (o:OkS s) (ek er:Int) (ps:Option (List Int)) (et:List UInt8) (hl:(ps.getD []).length≤100000):evFun (clOf (modsR tab (k+7)) 3) s405 [scD s,evD ⟨ek,er,0,0,70,ps,et⟩]=some (scD (moveS s ⟨ek,er,0,0,70,ps,et⟩),[]):=by
 have v:=fun q=>sp413 q s o ⟨ek,er,0,0,70,ps,et⟩
 generalize moveS s ⟨ek,er,0,0,70,ps,et⟩=S' at *
 rw [evFun_evB rfl]
 unfold s405
 simp -implicitDefEqProofs [cw413,v]
set_option maxHeartbeats 4000000 in
theorem sp405_71 (k:Nat) (s:Sc) (o:OkS s) (ek er:Int) (ps:Option (List Int)) (et:List UInt8) (hl:(ps.getD []).length≤100000):evFun (clOf (modsR tab (k+7)) 3) s405 [scD s,evD ⟨ek,er,0,0,71,ps,et⟩]=some (scD (moveS s ⟨ek,er,0,0,71,ps,et⟩),[]):=by
 have v:=fun q=>sp413 q s o ⟨ek,er,0,0,71,ps,et⟩
 generalize moveS s ⟨ek,er,0,0,71,ps,et⟩=S' at *
 rw [evFun_evB rfl]
 unfold s405
 simp -implicitDefEqProofs [cw413,v]
set_option maxHeartbeats 4000000 in
theorem sp405_96 (k:Nat) (s:Sc) (o:OkS s) (ek er:Int) (ps:Option (List Int)) (et:List UInt8) (hl:(ps.getD []).length≤100000):evFun (clOf (modsR tab (k+7)) 3) s405 [scD s,evD ⟨ek,er,0,0,96,ps,et⟩]=some (scD (moveS s ⟨ek,er,0,0,96,ps,et⟩),[]):=by
 have v:=fun q=>sp413 q s o ⟨ek,er,0,0,96,ps,et⟩
 generalize moveS s ⟨ek,er,0,0,96,ps,et⟩=S' at *
 rw [evFun_evB rfl]
 unfold s405
 simp -implicitDefEqProofs [cw413,v]
set_option maxHeartbeats 4000000 in
theorem sp405_100 (k:Nat) (s:Sc) (o:OkS s) (ek er:Int) (ps:Option (List Int)) (et:List UInt8) (hl:(ps.getD []).length≤100000):evFun (clOf (modsR tab (k+7)) 3) s405 [scD s,evD ⟨ek,er,0,0,100,ps,et⟩]=some (scD (moveS s ⟨ek,er,0,0,100,ps,et⟩),[]):=by
 have v:=fun q=>sp413 q s o ⟨ek,er,0,0,100,ps,et⟩
 generalize moveS s ⟨ek,er,0,0,100,ps,et⟩=S' at *
 rw [evFun_evB rfl]
 unfold s405
 simp -implicitDefEqProofs [cw413,v]
set_option maxHeartbeats 4000000 in
theorem sp405_72 (k:Nat) (s:Sc) (o:OkS s) (ek er:Int) (ps:Option (List Int)) (et:List UInt8) (hl:(ps.getD []).length≤100000):evFun (clOf (modsR tab (k+7)) 3) s405 [scD s,evD ⟨ek,er,0,0,72,ps,et⟩]=some (scD (moveS s ⟨ek,er,0,0,72,ps,et⟩),[]):=by
 have v:=fun q=>sp413 q s o ⟨ek,er,0,0,72,ps,et⟩
 generalize moveS s ⟨ek,er,0,0,72,ps,et⟩=S' at *
 rw [evFun_evB rfl]
 unfold s405
 simp -implicitDefEqProofs [cw413,v]
set_option maxHeartbeats 4000000 in
theorem sp405_102 (k:Nat) (s:Sc) (o:OkS s) (ek er:Int) (ps:Option (List Int)) (et:List UInt8) (hl:(ps.getD []).length≤100000):evFun (clOf (modsR tab (k+7)) 3) s405 [scD s,evD ⟨ek,er,0,0,102,ps,et⟩]=some (scD (moveS s ⟨ek,er,0,0,102,ps,et⟩),[]):=by
 have v:=fun q=>sp413 q s o ⟨ek,er,0,0,102,ps,et⟩
 generalize moveS s ⟨ek,er,0,0,102,ps,et⟩=S' at *
 rw [evFun_evB rfl]
 unfold s405
 simp -implicitDefEqProofs [cw413,v]
set_option maxHeartbeats 4000000 in
theorem sp405_74 (k:Nat) (s:Sc) (o:OkS s) (ek er:Int) (ps:Option (List Int)) (et:List UInt8) (hl:(ps.getD []).length≤100000):evFun (clOf (modsR tab (k+7)) 3) s405 [scD s,evD ⟨ek,er,0,0,74,ps,et⟩]=some (scD (chgS s ⟨ek,er,0,0,74,ps,et⟩),[]):=by
 have v:=fun q=>sp403 q s o ⟨ek,er,0,0,74,ps,et⟩
 generalize chgS s ⟨ek,er,0,0,74,ps,et⟩=S' at *
 rw [evFun_evB rfl]
 unfold s405
 simp -implicitDefEqProofs [cw403,v]
set_option maxHeartbeats 4000000 in
theorem sp405_75 (k:Nat) (s:Sc) (o:OkS s) (ek er:Int) (ps:Option (List Int)) (et:List UInt8) (hl:(ps.getD []).length≤100000):evFun (clOf (modsR tab (k+7)) 3) s405 [scD s,evD ⟨ek,er,0,0,75,ps,et⟩]=some (scD (chgS s ⟨ek,er,0,0,75,ps,et⟩),[]):=by
 have v:=fun q=>sp403 q s o ⟨ek,er,0,0,75,ps,et⟩
 generalize chgS s ⟨ek,er,0,0,75,ps,et⟩=S' at *
 rw [evFun_evB rfl]
 unfold s405
 simp -implicitDefEqProofs [cw403,v]
set_option maxHeartbeats 4000000 in
theorem sp405_64 (k:Nat) (s:Sc) (o:OkS s) (ek er:Int) (ps:Option (List Int)) (et:List UInt8) (hl:(ps.getD []).length≤100000):evFun (clOf (modsR tab (k+7)) 3) s405 [scD s,evD ⟨ek,er,0,0,64,ps,et⟩]=some (scD (chgS s ⟨ek,er,0,0,64,ps,et⟩),[]):=by
 have v:=fun q=>sp403 q s o ⟨ek,er,0,0,64,ps,et⟩
 generalize chgS s ⟨ek,er,0,0,64,ps,et⟩=S' at *
 rw [evFun_evB rfl]
 unfold s405
 simp -implicitDefEqProofs [cw403,v]
set_option maxHeartbeats 4000000 in
theorem sp405_80 (k:Nat) (s:Sc) (o:OkS s) (ek er:Int) (ps:Option (List Int)) (et:List UInt8) (hl:(ps.getD []).length≤100000):evFun (clOf (modsR tab (k+7)) 3) s405 [scD s,evD ⟨ek,er,0,0,80,ps,et⟩]=some (scD (chgS s ⟨ek,er,0,0,80,ps,et⟩),[]):=by
 have v:=fun q=>sp403 q s o ⟨ek,er,0,0,80,ps,et⟩
 generalize chgS s ⟨ek,er,0,0,80,ps,et⟩=S' at *
 rw [evFun_evB rfl]
 unfold s405
 simp -implicitDefEqProofs [cw403,v]
set_option maxHeartbeats 4000000 in
theorem sp405_88 (k:Nat) (s:Sc) (o:OkS s) (ek er:Int) (ps:Option (List Int)) (et:List UInt8) (hl:(ps.getD []).length≤100000):evFun (clOf (modsR tab (k+7)) 3) s405 [scD s,evD ⟨ek,er,0,0,88,ps,et⟩]=some (scD (chgS s ⟨ek,er,0,0,88,ps,et⟩),[]):=by
 have v:=fun q=>sp403 q s o ⟨ek,er,0,0,88,ps,et⟩
 generalize chgS s ⟨ek,er,0,0,88,ps,et⟩=S' at *
 rw [evFun_evB rfl]
 unfold s405
 simp -implicitDefEqProofs [cw403,v]
set_option maxHeartbeats 4000000 in
theorem sp405_76 (k:Nat) (s:Sc) (o:OkS s) (ek er:Int) (ps:Option (List Int)) (et:List UInt8) (hl:(ps.getD []).length≤100000):evFun (clOf (modsR tab (k+7)) 3) s405 [scD s,evD ⟨ek,er,0,0,76,ps,et⟩]=some (scD (rowsS s ⟨ek,er,0,0,76,ps,et⟩),[]):=by
 have v:=fun q=>sp414 q s o ⟨ek,er,0,0,76,ps,et⟩
 generalize rowsS s ⟨ek,er,0,0,76,ps,et⟩=S' at *
 rw [evFun_evB rfl]
 unfold s405
 simp -implicitDefEqProofs [cw414,v]
set_option maxHeartbeats 4000000 in
theorem sp405_77 (k:Nat) (s:Sc) (o:OkS s) (ek er:Int) (ps:Option (List Int)) (et:List UInt8) (hl:(ps.getD []).length≤100000):evFun (clOf (modsR tab (k+7)) 3) s405 [scD s,evD ⟨ek,er,0,0,77,ps,et⟩]=some (scD (rowsS s ⟨ek,er,0,0,77,ps,et⟩),[]):=by
 have v:=fun q=>sp414 q s o ⟨ek,er,0,0,77,ps,et⟩
 generalize rowsS s ⟨ek,er,0,0,77,ps,et⟩=S' at *
 rw [evFun_evB rfl]
 unfold s405
 simp -implicitDefEqProofs [cw414,v]
set_option maxHeartbeats 4000000 in
theorem sp405_83 (k:Nat) (s:Sc) (o:OkS s) (ek er:Int) (ps:Option (List Int)) (et:List UInt8) (hl:(ps.getD []).length≤100000):evFun (clOf (modsR tab (k+7)) 3) s405 [scD s,evD ⟨ek,er,0,0,83,ps,et⟩]=some (scD (rowsS s ⟨ek,er,0,0,83,ps,et⟩),[]):=by
 have v:=fun q=>sp414 q s o ⟨ek,er,0,0,83,ps,et⟩
 generalize rowsS s ⟨ek,er,0,0,83,ps,et⟩=S' at *
 rw [evFun_evB rfl]
 unfold s405
 simp -implicitDefEqProofs [cw414,v]
set_option maxHeartbeats 4000000 in
theorem sp405_84 (k:Nat) (s:Sc) (o:OkS s) (ek er:Int) (ps:Option (List Int)) (et:List UInt8) (hl:(ps.getD []).length≤100000):evFun (clOf (modsR tab (k+7)) 3) s405 [scD s,evD ⟨ek,er,0,0,84,ps,et⟩]=some (scD (rowsS s ⟨ek,er,0,0,84,ps,et⟩),[]):=by
 have v:=fun q=>sp414 q s o ⟨ek,er,0,0,84,ps,et⟩
 generalize rowsS s ⟨ek,er,0,0,84,ps,et⟩=S' at *
 rw [evFun_evB rfl]
 unfold s405
 simp -implicitDefEqProofs [cw414,v]
set_option maxHeartbeats 4000000 in
theorem sp405_109 (k:Nat) (s:Sc) (o:OkS s) (ek er:Int) (ps:Option (List Int)) (et:List UInt8) (hl:(ps.getD []).length≤100000):evFun (clOf (modsR tab (k+7)) 3) s405 [scD s,evD ⟨ek,er,0,0,109,ps,et⟩]=some (scD ({s with p:=applyM s.p (ps.getD [])}),[]):=by
 have v:=fun q=>sp340p q s.p ps hl
 generalize applyM s.p (ps.getD [])=P at *
 rw [evFun_evB rfl]
 unfold s405
 cases ps with
 | none =>
  simp only [parD] at v
  simp -implicitDefEqProofs [cw340,v,parD]
 | some l =>
  simp only [parD] at v
  simp -implicitDefEqProofs [cw340,v,parD]
set_option maxHeartbeats 4000000 in
theorem sp405_114 (k:Nat) (s:Sc) (o:OkS s) (ek er:Int) (ps:Option (List Int)) (et:List UInt8) (hl:(ps.getD []).length≤100000):evFun (clOf (modsR tab (k+7)) 3) s405 [scD s,evD ⟨ek,er,0,0,114,ps,et⟩]=some (scD (margS s ⟨ek,er,0,0,114,ps,et⟩),[]):=by
 have v:=fun q=>sp412 q s o ⟨ek,er,0,0,114,ps,et⟩
 generalize margS s ⟨ek,er,0,0,114,ps,et⟩=S' at *
 rw [evFun_evB rfl]
 unfold s405
 simp -implicitDefEqProofs [cw412,v]
set_option maxHeartbeats 4000000 in
theorem sp405_103 (k:Nat) (s:Sc) (o:OkS s) (ek er:Int) (ps:Option (List Int)) (et:List UInt8) (hl:(ps.getD []).length≤100000):evFun (clOf (modsR tab (k+7)) 3) s405 [scD s,evD ⟨ek,er,0,0,103,ps,et⟩]=some (scD (dropS s (argI (ps.getD []) 0 0 0 65535)),[]):=by
 have w:∀ q,evFun (clOf (modsR tab q) 3) s381 [evD ⟨ek,er,0,0,103,ps,et⟩,I 0,I 0,I 0,I 65535]=some (I (argI (ps.getD []) 0 0 0 65535),[]):=fun q=>sp381_0 q ⟨ek,er,0,0,103,ps,et⟩ 0 0 65535
 have v:=fun q=>sp408 q s o (argI (ps.getD []) 0 0 0 65535)
 generalize dropS s (argI (ps.getD []) 0 0 0 65535)=S' at *
 generalize argI (ps.getD []) 0 0 0 65535=n at *
 rw [evFun_evB rfl]
 unfold s405
 simp -implicitDefEqProofs [cr381,w,cw408,v]
set_option maxHeartbeats 4000000 in
theorem sp405_115 (k:Nat) (s:Sc) (o:OkS s) (ek er:Int) (ps:Option (List Int)) (et:List UInt8) (hl:(ps.getD []).length≤100000):evFun (clOf (modsR tab (k+7)) 3) s405 [scD s,evD ⟨ek,er,0,0,115,ps,et⟩]=some (scD (saveS s),[]):=by
 have v:=fun q=>sp129 q s o
 generalize saveS s=S' at *
 rw [evFun_evB rfl]
 unfold s405
 simp -implicitDefEqProofs [cw129,v]
set_option maxHeartbeats 4000000 in
theorem sp405_117 (k:Nat) (s:Sc) (o:OkS s) (ek er:Int) (ps:Option (List Int)) (et:List UInt8) (hl:(ps.getD []).length≤100000):evFun (clOf (modsR tab (k+7)) 3) s405 [scD s,evD ⟨ek,er,0,0,117,ps,et⟩]=some (scD (restS s),[]):=by
 have v:=fun q=>sp128 q s o
 generalize restS s=S' at *
 rw [evFun_evB rfl]
 unfold s405
 simp -implicitDefEqProofs [cw128,v]
set_option maxHeartbeats 4000000 in
theorem sp405 (k:Nat) (s:Sc) (o:OkS s) (e:Ev) (hl:e.par.length≤100000):evFun (clOf (modsR tab (k+7)) 3) s405 [scD s,evD e]=some (scD (csiS s e),[]):=by
 obtain ⟨ek,er,ep,ei,ef,ps,et⟩:=e
 by_cases c1:ei=0
 case neg =>
  have ee:csiS s ⟨ek,er,ep,ei,ef,ps,et⟩=s:=by unfold csiS;rw [if_pos c1]
  rw [ee,evFun_evB rfl]
  unfold s405
  simp -implicitDefEqProofs [c1]
 subst c1
 by_cases c2:ep=63
 ·subst c2
  have ee:csiS s ⟨ek,er,63,0,ef,ps,et⟩=setS s ⟨ek,er,63,0,ef,ps,et⟩:=by simp [csiS]
  have v:=fun q=>sp415 q s o ⟨ek,er,63,0,ef,ps,et⟩ hl
  rw [ee]
  generalize setS s ⟨ek,er,63,0,ef,ps,et⟩=S' at *
  rw [evFun_evB rfl]
  unfold s405
  simp -implicitDefEqProofs [cw415,v]
 by_cases c3:ep=0
 case neg =>
  have ee:csiS s ⟨ek,er,ep,0,ef,ps,et⟩=s:=by simp [csiS,c2,c3]
  rw [ee,evFun_evB rfl]
  unfold s405
  simp -implicitDefEqProofs [c2,c3]
 subst c3
 by_cases h65:ef=65
 ·subst h65
  exact sp405_65 k s o ek er ps et hl
 by_cases h66:ef=66
 ·subst h66
  exact sp405_66 k s o ek er ps et hl
 by_cases h67:ef=67
 ·subst h67
  exact sp405_67 k s o ek er ps et hl
 by_cases h68:ef=68
 ·subst h68
  exact sp405_68 k s o ek er ps et hl
 by_cases h69:ef=69
 ·subst h69
  exact sp405_69 k s o ek er ps et hl
 by_cases h70:ef=70
 ·subst h70
  exact sp405_70 k s o ek er ps et hl
 by_cases h71:ef=71
 ·subst h71
  exact sp405_71 k s o ek er ps et hl
 by_cases h96:ef=96
 ·subst h96
  exact sp405_96 k s o ek er ps et hl
 by_cases h100:ef=100
 ·subst h100
  exact sp405_100 k s o ek er ps et hl
 by_cases h72:ef=72
 ·subst h72
  exact sp405_72 k s o ek er ps et hl
 by_cases h102:ef=102
 ·subst h102
  exact sp405_102 k s o ek er ps et hl
 by_cases h74:ef=74
 ·subst h74
  exact sp405_74 k s o ek er ps et hl
 by_cases h75:ef=75
 ·subst h75
  exact sp405_75 k s o ek er ps et hl
 by_cases h64:ef=64
 ·subst h64
  exact sp405_64 k s o ek er ps et hl
 by_cases h80:ef=80
 ·subst h80
  exact sp405_80 k s o ek er ps et hl
 by_cases h88:ef=88
 ·subst h88
  exact sp405_88 k s o ek er ps et hl
 by_cases h76:ef=76
 ·subst h76
  exact sp405_76 k s o ek er ps et hl
 by_cases h77:ef=77
 ·subst h77
  exact sp405_77 k s o ek er ps et hl
 by_cases h83:ef=83
 ·subst h83
  exact sp405_83 k s o ek er ps et hl
 by_cases h84:ef=84
 ·subst h84
  exact sp405_84 k s o ek er ps et hl
 by_cases h109:ef=109
 ·subst h109
  exact sp405_109 k s o ek er ps et hl
 by_cases h114:ef=114
 ·subst h114
  exact sp405_114 k s o ek er ps et hl
 by_cases h103:ef=103
 ·subst h103
  exact sp405_103 k s o ek er ps et hl
 by_cases h115:ef=115
 ·subst h115
  exact sp405_115 k s o ek er ps et hl
 by_cases h117:ef=117
 ·subst h117
  exact sp405_117 k s o ek er ps et hl
 have ee:csiS s ⟨ek,er,0,0,ef,ps,et⟩=s:=by simp [csiS,isMove,isChg,isRows,h65,h66,h67,h68,h69,h70,h71,h96,h100,h72,h102,h74,h75,h64,h80,h88,h76,h77,h83,h84,h109,h114,h103,h115,h117]
 rw [ee,evFun_evB rfl]
 unfold s405
 simp -implicitDefEqProofs [h65,h66,h67,h68,h69,h70,h71,h96,h100,h72,h102,h74,h75,h64,h80,h88,h76,h77,h83,h84,h109,h114,h103,h115,h117]
end Go.Proofs.YtlpchliomdomdaaGreat.LgTab
