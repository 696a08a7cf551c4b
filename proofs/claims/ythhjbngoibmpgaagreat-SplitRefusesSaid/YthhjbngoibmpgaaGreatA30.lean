/-
  Part of a proof: lemmas and definitions of this work.
  No condition.
-/
import Derived.Test.YthhjbngoibmpgaaGreatA08
import Derived.Test.YthhjbngoibmpgaaGreatA29
set_option linter.all false
set_option maxRecDepth 100000
set_option maxHeartbeats 8000000
namespace Go.Eng
open Go Go.Proofs
attribute [local go_sem] aj.enc av.enc Task.enc Ev.enc bD.enc bf.enc cB.enc Dead.enc Dir.enc ak.enc Walk.enc aV.enc aJ.enc bL.enc Setup.enc aS dY dZ List.length_map
theorem anJ (a:aj) (t:Task) (k:Int) (hk:t.inv.kind=1) (hd:t.dn=false) (R:gF) (hst:Fn Tryz.prog 226 [.agg a.enc,.agg t.enc,I k] [] (dA R) [] []):Fn Tryz.prog 147 [.agg a.enc,.agg t.enc,I k] [] (dA R) [] []:=by
 have k1:(t.inv.kind==1)=true:=by simp [hk]
 have k2:(t.inv.kind==2)=false:=by simp [hk]
 have k3:(t.inv.kind==3)=false:=by simp [hk]
 have k4:(t.inv.kind==4)=false:=by simp [hk]
 have k5:(t.inv.kind==5)=false:=by simp [hk]
 have k6:(t.inv.kind==6)=false:=by simp [hk]
 have k7:(t.inv.kind==7)=false:=by simp [hk]
 have k8:(t.inv.kind==8)=false:=by simp [hk]
 have k9:(t.inv.kind==9)=false:=by simp [hk]
 have k10:(t.inv.kind==10)=false:=by simp [hk]
 have k11:(t.inv.kind==11)=false:=by simp [hk]
 have k12:(t.inv.kind==12)=false:=by simp [hk]
 have k13:(t.inv.kind==13)=false:=by simp [hk]
 have k14:(t.inv.kind==14)=false:=by simp [hk]
 refine Fn.aO kT (by simp) ?_
 unfold kS SC.mk' aj.enc Task.enc
 simp only [go_sem]
 have hJ:=ah hd (ah k1 (ah k2 (ah k3 (ah k4 (ah k5 (ah k6 (ah k7 (ah k8 (ah k9 (ah k10 (ah k11 (ah k12 (ah k13 k14)))))))))))))
 exact aZ
theorem anK (a:aj) (t:Task) (k:Int) (hk:t.inv.kind=2) (hd:t.dn=false) (R:gF) (hst:Fn Tryz.prog 227 [.agg a.enc,.agg t.enc,I k] [] (dA R) [] []):Fn Tryz.prog 147 [.agg a.enc,.agg t.enc,I k] [] (dA R) [] []:=by
 have k1:(t.inv.kind==1)=false:=by simp [hk]
 have k2:(t.inv.kind==2)=true:=by simp [hk]
 have k3:(t.inv.kind==3)=false:=by simp [hk]
 have k4:(t.inv.kind==4)=false:=by simp [hk]
 have k5:(t.inv.kind==5)=false:=by simp [hk]
 have k6:(t.inv.kind==6)=false:=by simp [hk]
 have k7:(t.inv.kind==7)=false:=by simp [hk]
 have k8:(t.inv.kind==8)=false:=by simp [hk]
 have k9:(t.inv.kind==9)=false:=by simp [hk]
 have k10:(t.inv.kind==10)=false:=by simp [hk]
 have k11:(t.inv.kind==11)=false:=by simp [hk]
 have k12:(t.inv.kind==12)=false:=by simp [hk]
 have k13:(t.inv.kind==13)=false:=by simp [hk]
 have k14:(t.inv.kind==14)=false:=by simp [hk]
 refine Fn.aO kT (by simp) ?_
 unfold kS SC.mk' aj.enc Task.enc
 simp only [go_sem]
 have hJ:=ah hd (ah k1 (ah k2 (ah k3 (ah k4 (ah k5 (ah k6 (ah k7 (ah k8 (ah k9 (ah k10 (ah k11 (ah k12 (ah k13 k14)))))))))))))
 exact aZ
theorem anL (a:aj) (t:Task) (k:Int) (hk:t.inv.kind=3) (hd:t.dn=false) (R:gF) (hst:Fn Tryz.prog 37 [.agg a.enc,.agg t.enc,I k] [] (dA R) [] []):Fn Tryz.prog 147 [.agg a.enc,.agg t.enc,I k] [] (dA R) [] []:=by
 have k1:(t.inv.kind==1)=false:=by simp [hk]
 have k2:(t.inv.kind==2)=false:=by simp [hk]
 have k3:(t.inv.kind==3)=true:=by simp [hk]
 have k4:(t.inv.kind==4)=false:=by simp [hk]
 have k5:(t.inv.kind==5)=false:=by simp [hk]
 have k6:(t.inv.kind==6)=false:=by simp [hk]
 have k7:(t.inv.kind==7)=false:=by simp [hk]
 have k8:(t.inv.kind==8)=false:=by simp [hk]
 have k9:(t.inv.kind==9)=false:=by simp [hk]
 have k10:(t.inv.kind==10)=false:=by simp [hk]
 have k11:(t.inv.kind==11)=false:=by simp [hk]
 have k12:(t.inv.kind==12)=false:=by simp [hk]
 have k13:(t.inv.kind==13)=false:=by simp [hk]
 have k14:(t.inv.kind==14)=false:=by simp [hk]
 refine Fn.aO kT (by simp) ?_
 unfold kS SC.mk' aj.enc Task.enc
 simp only [go_sem]
 have hJ:=ah hd (ah k1 (ah k2 (ah k3 (ah k4 (ah k5 (ah k6 (ah k7 (ah k8 (ah k9 (ah k10 (ah k11 (ah k12 (ah k13 k14)))))))))))))
 exact aZ
theorem anM (a:aj) (t:Task) (k:Int) (hk:t.inv.kind=4) (hd:t.dn=false) (R:gF) (hst:Fn Tryz.prog 37 [.agg a.enc,.agg t.enc,I k] [] (dA R) [] []):Fn Tryz.prog 147 [.agg a.enc,.agg t.enc,I k] [] (dA R) [] []:=by
 have k1:(t.inv.kind==1)=false:=by simp [hk]
 have k2:(t.inv.kind==2)=false:=by simp [hk]
 have k3:(t.inv.kind==3)=false:=by simp [hk]
 have k4:(t.inv.kind==4)=true:=by simp [hk]
 have k5:(t.inv.kind==5)=false:=by simp [hk]
 have k6:(t.inv.kind==6)=false:=by simp [hk]
 have k7:(t.inv.kind==7)=false:=by simp [hk]
 have k8:(t.inv.kind==8)=false:=by simp [hk]
 have k9:(t.inv.kind==9)=false:=by simp [hk]
 have k10:(t.inv.kind==10)=false:=by simp [hk]
 have k11:(t.inv.kind==11)=false:=by simp [hk]
 have k12:(t.inv.kind==12)=false:=by simp [hk]
 have k13:(t.inv.kind==13)=false:=by simp [hk]
 have k14:(t.inv.kind==14)=false:=by simp [hk]
 refine Fn.aO kT (by simp) ?_
 unfold kS SC.mk' aj.enc Task.enc
 simp only [go_sem]
 have hJ:=ah hd (ah k1 (ah k2 (ah k3 (ah k4 (ah k5 (ah k6 (ah k7 (ah k8 (ah k9 (ah k10 (ah k11 (ah k12 (ah k13 k14)))))))))))))
 exact aZ
theorem anN (a:aj) (t:Task) (k:Int) (hk:t.inv.kind=5) (hd:t.dn=false) (R:gF) (hst:Fn Tryz.prog 37 [.agg a.enc,.agg t.enc,I k] [] (dA R) [] []):Fn Tryz.prog 147 [.agg a.enc,.agg t.enc,I k] [] (dA R) [] []:=by
 have k1:(t.inv.kind==1)=false:=by simp [hk]
 have k2:(t.inv.kind==2)=false:=by simp [hk]
 have k3:(t.inv.kind==3)=false:=by simp [hk]
 have k4:(t.inv.kind==4)=false:=by simp [hk]
 have k5:(t.inv.kind==5)=true:=by simp [hk]
 have k6:(t.inv.kind==6)=false:=by simp [hk]
 have k7:(t.inv.kind==7)=false:=by simp [hk]
 have k8:(t.inv.kind==8)=false:=by simp [hk]
 have k9:(t.inv.kind==9)=false:=by simp [hk]
 have k10:(t.inv.kind==10)=false:=by simp [hk]
 have k11:(t.inv.kind==11)=false:=by simp [hk]
 have k12:(t.inv.kind==12)=false:=by simp [hk]
 have k13:(t.inv.kind==13)=false:=by simp [hk]
 have k14:(t.inv.kind==14)=false:=by simp [hk]
 refine Fn.aO kT (by simp) ?_
 unfold kS SC.mk' aj.enc Task.enc
 simp only [go_sem]
 have hJ:=ah hd (ah k1 (ah k2 (ah k3 (ah k4 (ah k5 (ah k6 (ah k7 (ah k8 (ah k9 (ah k10 (ah k11 (ah k12 (ah k13 k14)))))))))))))
 exact aZ
theorem anO (a:aj) (t:Task) (k:Int) (hk:t.inv.kind=6) (hd:t.dn=false) (R:gF) (hst:Fn Tryz.prog 228 [.agg a.enc,.agg t.enc,I k] [] (dA R) [] []):Fn Tryz.prog 147 [.agg a.enc,.agg t.enc,I k] [] (dA R) [] []:=by
 have k1:(t.inv.kind==1)=false:=by simp [hk]
 have k2:(t.inv.kind==2)=false:=by simp [hk]
 have k3:(t.inv.kind==3)=false:=by simp [hk]
 have k4:(t.inv.kind==4)=false:=by simp [hk]
 have k5:(t.inv.kind==5)=false:=by simp [hk]
 have k6:(t.inv.kind==6)=true:=by simp [hk]
 have k7:(t.inv.kind==7)=false:=by simp [hk]
 have k8:(t.inv.kind==8)=false:=by simp [hk]
 have k9:(t.inv.kind==9)=false:=by simp [hk]
 have k10:(t.inv.kind==10)=false:=by simp [hk]
 have k11:(t.inv.kind==11)=false:=by simp [hk]
 have k12:(t.inv.kind==12)=false:=by simp [hk]
 have k13:(t.inv.kind==13)=false:=by simp [hk]
 have k14:(t.inv.kind==14)=false:=by simp [hk]
 refine Fn.aO kT (by simp) ?_
 unfold kS SC.mk' aj.enc Task.enc
 simp only [go_sem]
 have hJ:=ah hd (ah k1 (ah k2 (ah k3 (ah k4 (ah k5 (ah k6 (ah k7 (ah k8 (ah k9 (ah k10 (ah k11 (ah k12 (ah k13 k14)))))))))))))
 exact aZ
theorem anP (a:aj) (t:Task) (k:Int) (hk:t.inv.kind=7) (hd:t.dn=false) (R:gF) (hst:Fn Tryz.prog 229 [.agg a.enc,.agg t.enc,I k] [] (dA R) [] []):Fn Tryz.prog 147 [.agg a.enc,.agg t.enc,I k] [] (dA R) [] []:=by
 have k1:(t.inv.kind==1)=false:=by simp [hk]
 have k2:(t.inv.kind==2)=false:=by simp [hk]
 have k3:(t.inv.kind==3)=false:=by simp [hk]
 have k4:(t.inv.kind==4)=false:=by simp [hk]
 have k5:(t.inv.kind==5)=false:=by simp [hk]
 have k6:(t.inv.kind==6)=false:=by simp [hk]
 have k7:(t.inv.kind==7)=true:=by simp [hk]
 have k8:(t.inv.kind==8)=false:=by simp [hk]
 have k9:(t.inv.kind==9)=false:=by simp [hk]
 have k10:(t.inv.kind==10)=false:=by simp [hk]
 have k11:(t.inv.kind==11)=false:=by simp [hk]
 have k12:(t.inv.kind==12)=false:=by simp [hk]
 have k13:(t.inv.kind==13)=false:=by simp [hk]
 have k14:(t.inv.kind==14)=false:=by simp [hk]
 refine Fn.aO kT (by simp) ?_
 unfold kS SC.mk' aj.enc Task.enc
 simp only [go_sem]
 have hJ:=ah hd (ah k1 (ah k2 (ah k3 (ah k4 (ah k5 (ah k6 (ah k7 (ah k8 (ah k9 (ah k10 (ah k11 (ah k12 (ah k13 k14)))))))))))))
 exact aZ
theorem anQ (a:aj) (t:Task) (k:Int) (hk:t.inv.kind=8) (hd:t.dn=false) (R:gF) (hst:Fn Tryz.prog 230 [.agg a.enc,.agg t.enc,I k] [] (dA R) [] []):Fn Tryz.prog 147 [.agg a.enc,.agg t.enc,I k] [] (dA R) [] []:=by
 have k1:(t.inv.kind==1)=false:=by simp [hk]
 have k2:(t.inv.kind==2)=false:=by simp [hk]
 have k3:(t.inv.kind==3)=false:=by simp [hk]
 have k4:(t.inv.kind==4)=false:=by simp [hk]
 have k5:(t.inv.kind==5)=false:=by simp [hk]
 have k6:(t.inv.kind==6)=false:=by simp [hk]
 have k7:(t.inv.kind==7)=false:=by simp [hk]
 have k8:(t.inv.kind==8)=true:=by simp [hk]
 have k9:(t.inv.kind==9)=false:=by simp [hk]
 have k10:(t.inv.kind==10)=false:=by simp [hk]
 have k11:(t.inv.kind==11)=false:=by simp [hk]
 have k12:(t.inv.kind==12)=false:=by simp [hk]
 have k13:(t.inv.kind==13)=false:=by simp [hk]
 have k14:(t.inv.kind==14)=false:=by simp [hk]
 refine Fn.aO kT (by simp) ?_
 unfold kS SC.mk' aj.enc Task.enc
 simp only [go_sem]
 have hJ:=ah hd (ah k1 (ah k2 (ah k3 (ah k4 (ah k5 (ah k6 (ah k7 (ah k8 (ah k9 (ah k10 (ah k11 (ah k12 (ah k13 k14)))))))))))))
 exact aZ
theorem anR (a:aj) (t:Task) (k:Int) (hk:t.inv.kind=9) (hd:t.dn=false) (R:gF) (hst:Fn Tryz.prog 231 [.agg a.enc,.agg t.enc,I k] [] (dA R) [] []):Fn Tryz.prog 147 [.agg a.enc,.agg t.enc,I k] [] (dA R) [] []:=by
 have k1:(t.inv.kind==1)=false:=by simp [hk]
 have k2:(t.inv.kind==2)=false:=by simp [hk]
 have k3:(t.inv.kind==3)=false:=by simp [hk]
 have k4:(t.inv.kind==4)=false:=by simp [hk]
 have k5:(t.inv.kind==5)=false:=by simp [hk]
 have k6:(t.inv.kind==6)=false:=by simp [hk]
 have k7:(t.inv.kind==7)=false:=by simp [hk]
 have k8:(t.inv.kind==8)=false:=by simp [hk]
 have k9:(t.inv.kind==9)=true:=by simp [hk]
 have k10:(t.inv.kind==10)=false:=by simp [hk]
 have k11:(t.inv.kind==11)=false:=by simp [hk]
 have k12:(t.inv.kind==12)=false:=by simp [hk]
 have k13:(t.inv.kind==13)=false:=by simp [hk]
 have k14:(t.inv.kind==14)=false:=by simp [hk]
 refine Fn.aO kT (by simp) ?_
 unfold kS SC.mk' aj.enc Task.enc
 simp only [go_sem]
 have hJ:=ah hd (ah k1 (ah k2 (ah k3 (ah k4 (ah k5 (ah k6 (ah k7 (ah k8 (ah k9 (ah k10 (ah k11 (ah k12 (ah k13 k14)))))))))))))
 exact aZ
theorem anS (a:aj) (t:Task) (k:Int) (hk:t.inv.kind=10) (hd:t.dn=false) (R:gF) (hst:Fn Tryz.prog 232 [.agg a.enc,.agg t.enc,I k] [] (dA R) [] []):Fn Tryz.prog 147 [.agg a.enc,.agg t.enc,I k] [] (dA R) [] []:=by
 have k1:(t.inv.kind==1)=false:=by simp [hk]
 have k2:(t.inv.kind==2)=false:=by simp [hk]
 have k3:(t.inv.kind==3)=false:=by simp [hk]
 have k4:(t.inv.kind==4)=false:=by simp [hk]
 have k5:(t.inv.kind==5)=false:=by simp [hk]
 have k6:(t.inv.kind==6)=false:=by simp [hk]
 have k7:(t.inv.kind==7)=false:=by simp [hk]
 have k8:(t.inv.kind==8)=false:=by simp [hk]
 have k9:(t.inv.kind==9)=false:=by simp [hk]
 have k10:(t.inv.kind==10)=true:=by simp [hk]
 have k11:(t.inv.kind==11)=false:=by simp [hk]
 have k12:(t.inv.kind==12)=false:=by simp [hk]
 have k13:(t.inv.kind==13)=false:=by simp [hk]
 have k14:(t.inv.kind==14)=false:=by simp [hk]
 refine Fn.aO kT (by simp) ?_
 unfold kS SC.mk' aj.enc Task.enc
 simp only [go_sem]
 have hJ:=ah hd (ah k1 (ah k2 (ah k3 (ah k4 (ah k5 (ah k6 (ah k7 (ah k8 (ah k9 (ah k10 (ah k11 (ah k12 (ah k13 k14)))))))))))))
 exact aZ
theorem anT (a:aj) (t:Task) (k:Int) (hk:t.inv.kind=11) (hd:t.dn=false) (R:gF) (hst:Fn Tryz.prog 233 [.agg a.enc,.agg t.enc,I k] [] (dA R) [] []):Fn Tryz.prog 147 [.agg a.enc,.agg t.enc,I k] [] (dA R) [] []:=by
 have k1:(t.inv.kind==1)=false:=by simp [hk]
 have k2:(t.inv.kind==2)=false:=by simp [hk]
 have k3:(t.inv.kind==3)=false:=by simp [hk]
 have k4:(t.inv.kind==4)=false:=by simp [hk]
 have k5:(t.inv.kind==5)=false:=by simp [hk]
 have k6:(t.inv.kind==6)=false:=by simp [hk]
 have k7:(t.inv.kind==7)=false:=by simp [hk]
 have k8:(t.inv.kind==8)=false:=by simp [hk]
 have k9:(t.inv.kind==9)=false:=by simp [hk]
 have k10:(t.inv.kind==10)=false:=by simp [hk]
 have k11:(t.inv.kind==11)=true:=by simp [hk]
 have k12:(t.inv.kind==12)=false:=by simp [hk]
 have k13:(t.inv.kind==13)=false:=by simp [hk]
 have k14:(t.inv.kind==14)=false:=by simp [hk]
 refine Fn.aO kT (by simp) ?_
 unfold kS SC.mk' aj.enc Task.enc
 simp only [go_sem]
 have hJ:=ah hd (ah k1 (ah k2 (ah k3 (ah k4 (ah k5 (ah k6 (ah k7 (ah k8 (ah k9 (ah k10 (ah k11 (ah k12 (ah k13 k14)))))))))))))
 exact aZ
theorem anU (a:aj) (t:Task) (k:Int) (hk:t.inv.kind=12) (hd:t.dn=false) (R:gF) (hst:Fn Tryz.prog 234 [.agg a.enc,.agg t.enc,I k] [] (dA R) [] []):Fn Tryz.prog 147 [.agg a.enc,.agg t.enc,I k] [] (dA R) [] []:=by
 have k1:(t.inv.kind==1)=false:=by simp [hk]
 have k2:(t.inv.kind==2)=false:=by simp [hk]
 have k3:(t.inv.kind==3)=false:=by simp [hk]
 have k4:(t.inv.kind==4)=false:=by simp [hk]
 have k5:(t.inv.kind==5)=false:=by simp [hk]
 have k6:(t.inv.kind==6)=false:=by simp [hk]
 have k7:(t.inv.kind==7)=false:=by simp [hk]
 have k8:(t.inv.kind==8)=false:=by simp [hk]
 have k9:(t.inv.kind==9)=false:=by simp [hk]
 have k10:(t.inv.kind==10)=false:=by simp [hk]
 have k11:(t.inv.kind==11)=false:=by simp [hk]
 have k12:(t.inv.kind==12)=true:=by simp [hk]
 have k13:(t.inv.kind==13)=false:=by simp [hk]
 have k14:(t.inv.kind==14)=false:=by simp [hk]
 refine Fn.aO kT (by simp) ?_
 unfold kS SC.mk' aj.enc Task.enc
 simp only [go_sem]
 have hJ:=ah hd (ah k1 (ah k2 (ah k3 (ah k4 (ah k5 (ah k6 (ah k7 (ah k8 (ah k9 (ah k10 (ah k11 (ah k12 (ah k13 k14)))))))))))))
 exact aZ
theorem anV (a:aj) (t:Task) (k:Int) (hk:t.inv.kind=13) (hd:t.dn=false) (R:gF) (hst:Fn Tryz.prog 234 [.agg a.enc,.agg t.enc,I k] [] (dA R) [] []):Fn Tryz.prog 147 [.agg a.enc,.agg t.enc,I k] [] (dA R) [] []:=by
 have k1:(t.inv.kind==1)=false:=by simp [hk]
 have k2:(t.inv.kind==2)=false:=by simp [hk]
 have k3:(t.inv.kind==3)=false:=by simp [hk]
 have k4:(t.inv.kind==4)=false:=by simp [hk]
 have k5:(t.inv.kind==5)=false:=by simp [hk]
 have k6:(t.inv.kind==6)=false:=by simp [hk]
 have k7:(t.inv.kind==7)=false:=by simp [hk]
 have k8:(t.inv.kind==8)=false:=by simp [hk]
 have k9:(t.inv.kind==9)=false:=by simp [hk]
 have k10:(t.inv.kind==10)=false:=by simp [hk]
 have k11:(t.inv.kind==11)=false:=by simp [hk]
 have k12:(t.inv.kind==12)=false:=by simp [hk]
 have k13:(t.inv.kind==13)=true:=by simp [hk]
 have k14:(t.inv.kind==14)=false:=by simp [hk]
 refine Fn.aO kT (by simp) ?_
 unfold kS SC.mk' aj.enc Task.enc
 simp only [go_sem]
 have hJ:=ah hd (ah k1 (ah k2 (ah k3 (ah k4 (ah k5 (ah k6 (ah k7 (ah k8 (ah k9 (ah k10 (ah k11 (ah k12 (ah k13 k14)))))))))))))
 exact aZ
theorem anW (a:aj) (t:Task) (k:Int) (hk:t.inv.kind=14) (hd:t.dn=false) (R:gF) (hst:Fn Tryz.prog 235 [.agg a.enc,.agg t.enc,I k] [] (dA R) [] []):Fn Tryz.prog 147 [.agg a.enc,.agg t.enc,I k] [] (dA R) [] []:=by
 have k1:(t.inv.kind==1)=false:=by simp [hk]
 have k2:(t.inv.kind==2)=false:=by simp [hk]
 have k3:(t.inv.kind==3)=false:=by simp [hk]
 have k4:(t.inv.kind==4)=false:=by simp [hk]
 have k5:(t.inv.kind==5)=false:=by simp [hk]
 have k6:(t.inv.kind==6)=false:=by simp [hk]
 have k7:(t.inv.kind==7)=false:=by simp [hk]
 have k8:(t.inv.kind==8)=false:=by simp [hk]
 have k9:(t.inv.kind==9)=false:=by simp [hk]
 have k10:(t.inv.kind==10)=false:=by simp [hk]
 have k11:(t.inv.kind==11)=false:=by simp [hk]
 have k12:(t.inv.kind==12)=false:=by simp [hk]
 have k13:(t.inv.kind==13)=false:=by simp [hk]
 have k14:(t.inv.kind==14)=true:=by simp [hk]
 refine Fn.aO kT (by simp) ?_
 unfold kS SC.mk' aj.enc Task.enc
 simp only [go_sem]
 have hJ:=ah hd (ah k1 (ah k2 (ah k3 (ah k4 (ah k5 (ah k6 (ah k7 (ah k8 (ah k9 (ah k10 (ah k11 (ah k12 (ah k13 k14)))))))))))))
 exact aZ
theorem anX (a:aj) (t:Task) (k:Int) (hk:t.inv.kind<1\/14<t.inv.kind) (hd:t.dn=false):Fn Tryz.prog 147 [.agg a.enc,.agg t.enc,I k] [] (dA (dN 9)) [] []:=by
 have k1:(t.inv.kind==1)=false:=by simp;omega
 have k2:(t.inv.kind==2)=false:=by simp;omega
 have k3:(t.inv.kind==3)=false:=by simp;omega
 have k4:(t.inv.kind==4)=false:=by simp;omega
 have k5:(t.inv.kind==5)=false:=by simp;omega
 have k6:(t.inv.kind==6)=false:=by simp;omega
 have k7:(t.inv.kind==7)=false:=by simp;omega
 have k8:(t.inv.kind==8)=false:=by simp;omega
 have k9:(t.inv.kind==9)=false:=by simp;omega
 have k10:(t.inv.kind==10)=false:=by simp;omega
 have k11:(t.inv.kind==11)=false:=by simp;omega
 have k12:(t.inv.kind==12)=false:=by simp;omega
 have k13:(t.inv.kind==13)=false:=by simp;omega
 have k14:(t.inv.kind==14)=false:=by simp;omega
 refine Fn.aO kT (by simp) ?_
 unfold kS SC.mk' aj.enc Task.enc
 simp only [go_sem]
 have aK:=jY 9
 have hJ:=ah hd (ah k1 (ah k2 (ah k3 (ah k4 (ah k5 (ah k6 (ah k7 (ah k8 (ah k9 (ah k10 (ah k11 (ah k12 (ah k13 k14)))))))))))))
 exact aZ
end Go.Eng
namespace Go.Eng
open Go Go.Proofs
theorem anY {l ms:List ai} (h:fC l=0):fC (l++ms)=fC ms:=by
 induction l with
 |nil=>rfl
 |cons m r ih=>
  simp only [fC] at h
  split at h
  ·contradiction
  ·rename_i hv
   simp only [List.cons_append,fC,if_neg hv]
   exact ih h
theorem anZ (d:Dead) (hl:d.l.length<=100000):Fn Tryz.prog 185 [.agg d.enc] [] (I d.room) [] []:=abm d.cap d.l hl
theorem an0 (d:Dead) (l:List ai):M7 d.cap d.l l= .aF [.agg (d.put l).1.enc,I (d.put l).2]:=by
 unfold M7 Dead.put Dead.val Dead.room yH
 by_cases h:iA d.cap d.l=0
 ·have e:=anY (ms:=l) (AP h).2.2.2.1
  simp only [h,ne_eq,not_true_eq_false,if_false]
  unfold iE
  rw [e]
  by_cases h1:d.cap - d.l.length<l.length
  ·simp only [if_pos h1];rfl
  ·simp only [if_neg h1]
   by_cases h2:fC l=0
   ·simp only [h2,ne_eq,not_true_eq_false,if_false]
    by_cases h3:dup (d.l++l)=true
    ·simp only [h3,if_true];simp;rfl
    ·simp only [h3,if_false];simp;rfl
   ·simp only [ne_eq,h2,not_false_eq_true,if_true];rfl
 ·simp only [ne_eq,h,not_false_eq_true,if_true];rfl
theorem an1 (d:Dead) (l:List ai) (h1:d.l.length<=10000) (h2:l.length<=10000):Fn Tryz.prog 117 [.agg d.enc,.sl 7 (l.map ai.enc)] [] (.aF [.agg (d.put l).1.enc,I (d.put l).2]) [] []:=by
 have h:=akG d.cap d.l l h1 h2
 rw [an0] at h
 exact h
theorem an2 (d:Dead) (k ep:Int):takeA d.cap d.l k ep= .aF [.agg (d.take k ep).1.enc,.sl 7 ((d.take k ep).2.1.map ai.enc),I (d.take k ep).2.2]:=by
 unfold takeA Dead.take wJ Dead.val
 by_cases h:iA d.cap d.l=0
 ·simp only [h,ne_eq,not_true_eq_false,if_false]
  by_cases h1:ep<0
  ·simp [h1];first|rfl|exact ⟨rfl,rfl⟩
  by_cases h2:65536<ep
  ·simp [h2];first|rfl|exact ⟨rfl,rfl⟩
  by_cases h3:k<0
  ·simp [h1,h2,h3];first|rfl|exact ⟨rfl,rfl⟩
  ·simp [h1,h2,h3];first|rfl|exact ⟨rfl,rfl⟩
 ·simp only [ne_eq,h,not_false_eq_true,if_true];rfl
theorem an3 (d:Dead) (k ep:Int) (h1:d.l.length<=10000):Fn Tryz.prog 376 [.agg d.enc,I k,I ep] [] (.aF [.agg (d.take k ep).1.enc,.sl 7 ((d.take k ep).2.1.map ai.enc),I (d.take k ep).2.2]) [] []:=by
 have h:=akH d.cap d.l k ep h1
 rw [an2] at h
 exact h
theorem take_len (d:Dead) (k ep:Int):(d.take k ep).2.1.length<=d.l.length:=by
 have:=VK k ep d.l
 unfold Dead.take
 repeat' split
 all_goals first|exact Nat.zero_le _|(simp only;omega)
theorem an4 (d:Dead) (ep:Int):M8 d.cap d.l ep= .aF [.agg (d.clean ep).1.enc,I (d.clean ep).2.1,I (d.clean ep).2.2]:=by
 unfold M8 Dead.clean wJ Dead.val
 by_cases h:iA d.cap d.l=0
 ·simp only [h,ne_eq,not_true_eq_false,if_false]
  by_cases h1:ep<0
  ·simp [h1];first|rfl|exact ⟨rfl,rfl⟩
  by_cases h2:65536<ep
  ·simp [h2];first|rfl|exact ⟨rfl,rfl⟩
  ·simp [h1,h2];first|rfl|exact ⟨rfl,rfl⟩
 ·simp only [ne_eq,h,not_false_eq_true,if_true];rfl
theorem an5 (d:Dead) (ep:Int) (h1:d.l.length<=10000):Fn Tryz.prog 392 [.agg d.enc,I ep] [] (.aF [.agg (d.clean ep).1.enc,I (d.clean ep).2.1,I (d.clean ep).2.2]) [] []:=by
 have h:=akI d.cap d.l ep h1
 rw [an4] at h
 exact h
theorem adl (s:ak) (now ep li:Int):(s.expire now ep li).2.1.length<=13:=by
 have:=acE s.aR now ep
 unfold ak.expire
 repeat' split
 all_goals first|exact Nat.zero_le _|omega
theorem NS (l:List Int) (j:Nat) (h:j<l.length):(fH (l.take j)).map cK.enc++[[I (gI l j),I 0,I 0,I 0]]=(fH (l.take (j+1))).map cK.enc:=by
 rw [Bj 0 h]
 simp [fH,cK.enc,gI]
@[simp] theorem aq4:fH []=[]:=rfl
@[simp] theorem iP (l:List Int):(fH l).length=l.length:=by simp [fH]
theorem ic (t:Task) (k:Int):Fn Tryz.prog 155 [.agg t.enc,I k] [] (.agg [I t.sec.aI.stamp,I t.number,I t.entry,I k,I t.sec.aI.clock,I t.sec.aI.epoch,I 0,Nl,I 0,I 0]) [] []:=by
 refine Fn.aO Mq (by simp) ?_
 unfold Ml SC.mk' Task.enc
 simp only [go_sem]
 exact aX
theorem an6 (s:av):Fn Tryz.prog 61 [.agg s.enc] [] (.agg [.sl 8 (s.aN.map ak.enc),I s.dead.cap,.sl 7 (s.dead.l.map ai.enc),Nl,Nl,Nl]) [] []:=by
 refine Fn.aO Ma (by simp) ?_
 unfold L9 SC.mk' av.enc
 simp only [go_sem]
 exact aX
attribute [local go_sem] aj.enc av.enc Task.enc Ev.enc bD.enc bf.enc cB.enc Dead.enc Dir.enc ak.enc Walk.enc aV.enc aJ.enc bL.enc Setup.enc aS dY dZ List.length_map
theorem adm (d:Dir) (home:Int) (hd:d.l.length<=70000):Fn Tryz.prog 313 [.agg d.enc,I home] [] (I (qm d home)) [] []:=by
 generalize hR:qm d home=R
 unfold qm at hR
 refine Fn.aT bR aiV (by simp) ?_
 unfold Ug SC.mk' Dir.enc
 simp only [go_sem]
 have aK:=amf d home hd
 have aU:=acK d 0 hd
 have hJ:=trivial
 exact aZ
theorem Xj (t:Task) (hl:t.sec.aW) (h1:0<t.sec.aN.length):Fn Tryz.prog 374 [.agg t.enc] [] (.aF [.agg (kF t).1.enc,.sl 1 (encI (kF t).2.1),.sl 8 ((kF t).2.2.map Lease.enc)]) [] []:=by
 generalize hR:kF t=R
 unfold kF at hR
 simp only at hR
 have hn:=kI h1
 have hsm:=nA hl 0
 have hlt:=kY hl 0
 generalize dW t.sec.aN 0=s at hR hn hsm hlt
 have hx:=acF s t.sec.aI.clock t.sec.aI.epoch t.setup.limit hsm
 have hxl:=WM t.sec.aI.clock t.sec.aI.epoch t.setup.limit hlt
 generalize s.expire t.sec.aI.clock t.sec.aI.epoch t.setup.limit=x at hR hx hxl
 have hy:=al5 x.1 t.inv.max_ t.sec.aI.clock t.inv.bB t.sec.aI.epoch t.setup.limit (by have:=hxl.1;have:=hxl.2;constructor<;>omega)
 generalize x.1.take t.inv.max_ t.sec.aI.clock t.inv.bB t.sec.aI.epoch t.setup.limit=y at hR hy
 refine Fn.aT bR ai9 (by simp) ?_
 unfold UO SC.mk' Task.enc
 simp only [hn,ak.enc,List.length_map,go_sem]
 repeat (refine bn ?_)
 have hJ:=trivial
 exact aZ
end Go.Eng
namespace Go.Eng
open Go Go.Proofs
attribute [local go_sem] aj.enc av.enc Task.enc Ev.enc bD.enc bf.enc cB.enc Dead.enc Dir.enc ak.enc Walk.enc aV.enc aJ.enc bL.enc Setup.enc aS dY dZ List.length_map
theorem Fn.wk {P:Program} {f:FuncId} {xs:List AV} {r r':AV} (hF:Fn P f xs [] r [] []) (h:rv [] [] [] r' r):Fn P f xs [] r' [] []:=by
 refine ⟨hF.1,fun C ρ U w vals hr hU hv=>(hF.2 C ρ U w vals hr hU hv).mono fun e w' he=> ?_⟩
 obtain ⟨v,ρ',U',rfl,h1,h2⟩:=he
 exact ⟨v,_,_,rfl,xO (S:=[]) (N:=[]) h1 rfl trivial trivial,lD (S:=[]) (N:=[]) h1 h2 _ h⟩
theorem an7 (h:Hd):∃ e,Fn Tryz.prog 150 [.agg h.enc] [] (.aF [gK (Dw h),I e]) [] []:=by
 have hf:=Dm h
 unfold encR at hf
 unfold Dw
 split at hf
 ·rename_i hk
  simp only [hk,if_true]
  exact ⟨_,hf⟩
 ·rename_i hk
  simp only [hk,if_false]
  exact ⟨1,hf.wk (by simp [rv,au,dL])⟩
theorem an8 (s:ak) (mx now bB ep li:Int):(s.take mx now bB ep li).2.1.length<=6:=by
 unfold ak.take
 split
 ·exact Nat.zero_le _
 split
 ·exact Nat.zero_le _
 split
 ·exact Nat.zero_le _
 ·rename_i h _
  have:=Nq mx (now+bB) ep li s.ready.list s [] (by simp;omega)
  simp only
  omega
theorem Xk (t:Task):(kF t).2.2.length<=1000:=Nat.le_trans (an8 _ _ _ _ _ _) (by omega)
theorem an9 (t:Task) (hl:t.sec.aW) (h1:0<t.sec.aN.length):Fn Tryz.prog 316 [.agg t.enc] [] (.agg (yZ t).enc) [] []:=by
 generalize hR:yZ t=R
 unfold yZ at hR
 have htk:=Xj t hl h1
 have hL:=Xk t
 generalize kF t=x at hR htk hL
 generalize xu:x.2.2=L at hR htk hL
 generalize hT:(fun x:Lease=>Dw ⟨x.msg.id,x.msg.gen,x.msg.route,t.slot⟩)=T at hR
 have mx:∀ j:Nat,j<=10000->j<=maxLen:=fun j h=>Nat.le_trans h (by decide)
 refine Fn.aT bR aiX (by simp) ?_
 unfold Ui SC.mk' Task.enc
 simp only [go_sem]
 have hJ:=trivial
 repeat' first
  |(first|refine sC ?_|refine sD ?_|refine sZ ?_|refine sY ?_|refine sF ?_);simp only [hJ,go_sem]
  |(first|refine bC (fun hq=> ?_) (fun hq=> ?_)|refine dR (fun hq=> ?_) (fun hq=> ?_)|refine dD (fun hq=> ?_) (fun hq=> ?_))<;>simp only [hq,hJ,go_sem]
  |refine sM ?_;simp only [ay,rv,au,get,hJ,go_sem]
  |refine bn ?_
  |fail
 all_goals clear hJ
 refine go_loop (fun j:{j:Nat // j<=L.length}=>⟨5000,[(1,.ptr 8 0),(2,.ptr 16 0),(3,.ptr 24 0),(6,.sl 8 (L.map Lease.enc)),(7,I j.1)],[(24,.box [I 0,I 0,.own 4000 1 0 j.1,.own 4008 1 0 j.1,I 0,I 0,I 0]),(4000,.row 91 1 (bW ((L.take j.1).map T))),(4008,.row 9 1 (encS ((L.take j.1).map fun x=>x.msg.body))),(16,.box [I 0,I 0,Nl,Nl,I 0,I 0,I 0]),(8,.box [I t.number,I t.inv.kind,I t.inv.home,I t.inv.max_,I t.inv.bB,I t.inv.bq,I t.inv.to,.sl 1 (encS t.inv.bodies),.sl 1 (bW t.inv.tokens),I t.invoked,Bo t.dn,I t.ended,I t.pc,I t.entry,.sl 7 (t.results.map aV.enc),I t.setup.slots,I t.setup.live,I t.setup.capacity,I t.setup.dead,I t.setup.limit,I t.setup.clock,I t.setup.fB,I t.setup.epoch,I t.sec.phase,I t.sec.at_,.sl 1 (encI t.sec.lock.cells),I t.sec.lock.phase,I t.sec.lock.got,I t.sec.lock.tries,I t.sec.lock.wait,I t.sec.aI.phase,I t.sec.aI.epoch,I t.sec.aI.clock,I t.sec.aI.stamp,.sl 8 (t.sec.aN.map ak.enc),I t.sec.dead.cap,.sl 7 (t.sec.dead.l.map ai.enc),.sl 4 (t.sec.bU.map aJ.enc),I t.sec.dir.version,.sl 3 (t.sec.dir.l.map Span.enc),.sl 1 (encI t.sec.dir.aM),.sl 8 (t.sec.out.aN.map ak.enc),I t.sec.out.dead.cap,.sl 7 (t.sec.out.dead.l.map ai.enc),.sl 1 (encI t.sec.out.order),.sl 7 (t.sec.out.carry.map ai.enc),.sl 4 (t.sec.out.dO.map bL.enc),I t.sec.limit,.sl 7 (t.sec.carry.map ai.enc),I t.dir.version,.sl 3 (t.dir.l.map Span.enc),.sl 1 (encI t.dir.aM),I t.walk.next,I t.walk.covered,I t.slot,I t.id,I t.hnd.id,I t.hnd.gen,I t.hnd.route,I t.hnd.hint,I t.loaded,.sl 4 (t.first.map aJ.enc),.sl 4 (t.second.map aJ.enc)])]⟩) (fun j=>L.length - j.1) ⟨0,by omega⟩ (wk [(8,8),(16,16),(24,24)] [4000,4008]) ?_
 rintro ⟨j,hj⟩ B hB
 simp only [go_sem]
 by_cases e1:j<L.length
 ·have e2:decide ((j:Int)<(L.length:Int))=true:=by simp;omega
  have hx:nth (L.map Lease.enc) j=Lease.enc (L[j]?.getD Lease.z):=bS Lease.enc Lease.z e1
  have hw:=bT (show j<=100000 by omega)
  have hm1:=mx (j+1) (by omega)
  have ht:L.take (j+1)=L.take j++[L[j]?.getD Lease.z]:=Bj Lease.z e1
  generalize L[j]?.getD Lease.z=m at hx ht
  have l1:(L.take j).length=j:=by simp;omega
  have e3:List.take j (bW ((L.take j).map T))=bW ((L.take j).map T):=bA (by simp [bW];omega)
  have e4:List.take j (encS ((L.take j).map fun x=>x.msg.body))=encS ((L.take j).map fun x=>x.msg.body):=bA (by simp [encS];omega)
  have e5:bW ((L.take j).map T)++[[gK (Dw ⟨m.msg.id,m.msg.gen,m.msg.route,t.slot⟩)]]=bW ((L.take (j+1)).map T):=by rw [ht,<-hT];simp [bW]
  have e6:encS ((L.take j).map fun x=>x.msg.body)++[[.v (.string m.msg.body)]]=encS ((L.take (j+1)).map fun x=>x.msg.body):=by rw [ht];simp [encS]
  have l2:(bW ((L.take j).map T)).length=j:=by simp [bW];omega
  have l3:(encS ((L.take j).map fun x=>x.msg.body)).length=j:=by simp [encS];omega
  obtain ⟨ee,hE⟩:=an7 ⟨m.msg.id,m.msg.gen,m.msg.route,t.slot⟩
  simp only [e2,hx,hw,Int.toNat_natCast,List.length_map,Lease.enc,go_sem]
  repeat' first
   |(refine um ?_;simp only [e2,hx,hw,e3,e4,e5,e6,l1,l2,l3,Int.toNat_natCast,List.length_map,Lease.enc,go_sem])
   |(refine aQ (hE) rfl rfl ?_;simp only [e2,hx,hw,e3,e4,e5,e6,l1,l2,l3,Int.toNat_natCast,List.length_map,Lease.enc,go_sem])
   |(refine bX (hE) rfl rfl ?_;simp only [e2,hx,hw,e3,e4,e5,e6,l1,l2,l3,Int.toNat_natCast,List.length_map,Lease.enc,go_sem])
   |refine bn ?_
   |fail
  exact hB _ ⟨j+1,by omega⟩ (by simp only;omega) (wk [(8,8),(16,16),(24,24),(4000,5240),(4008,5304)] [])
 ·have e2:decide ((j:Int)<(L.length:Int))=false:=by simp;omega
  have ht:L.take j=L:=bA (by omega)
  have hjL:j=L.length:=by omega
  clear hB
  have e3:List.take j (bW (L.map T))=bW (L.map T):=bA (by simp [bW];omega)
  have e4:List.take j (encS (L.map fun x=>x.msg.body))=encS (L.map fun x=>x.msg.body):=bA (by simp [encS];omega)
  have l2:(bW (L.map T)).length=j:=by simp [bW];omega
  have l3:(encS (L.map fun x=>x.msg.body)).length=j:=by simp [encS];omega
  simp only [e2,ht,List.length_map,go_sem]
  have hJ:=ah e3 (ah e4 (ah l2 l3))
  exact aZ
end Go.Eng
