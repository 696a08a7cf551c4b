/-
  Part of a proof: lemmas and definitions of this work.
  No condition.
-/
import Derived.Test.YtmhaehngejengaaGreatA12
import Derived.Test.YtmhaehngejengaaGreatA31
set_option linter.all false
set_option maxRecDepth 100000
set_option maxHeartbeats 8000000
namespace Go.Eng
open Go Go.Proofs
attribute [local go_sem] ak.enc ax.enc Task.enc Ev.enc bG.enc bf.enc dG.enc Dead.enc Dir.enc aj.enc Walk.enc aV.enc aH.enc bT.enc Setup.enc aS fD fE List.length_map
theorem ao7 (a:ak) (t:Task) (k:Int) (hk:t.inv.kind=1) (hd:t.dn=false) (R:iH) (hst:Fn Tryz.prog 278 [.agg a.enc,.agg t.enc,I k] [] (dW R) [] []):Fn Tryz.prog 199 [.agg a.enc,.agg t.enc,I k] [] (dW R) [] []:=by
 have k1:(t.inv.kind==1)=true:=by simp [hk]
 have k2:(t.inv.kind==2)=false:=by simp [hk]
 have k3:(t.inv.kind==3)=false:=by simp [hk]
 have k4:(t.inv.kind==4)=false:=by simp [hk]
 have k5:(t.inv.kind==5)=false:=by simp [hk]
 have k6:(t.inv.kind==6)=false:=by simp [hk]
 have k7:(t.inv.kind==7)=false:=by simp [hk]
 have k8:(t.inv.kind==8)=false:=by simp [hk]
 have k9:(t.inv.kind==9)=false:=by simp [hk]
 have k10:(t.inv.kind==10)=false:=by simp [hk]
 have k11:(t.inv.kind==11)=false:=by simp [hk]
 have k12:(t.inv.kind==12)=false:=by simp [hk]
 have k13:(t.inv.kind==13)=false:=by simp [hk]
 have k14:(t.inv.kind==14)=false:=by simp [hk]
 refine Fn.aN ni (by simp) ?_
 unfold lY SC.mk' ak.enc Task.enc
 simp only [go_sem]
 have hJ:=ah hd (ah k1 (ah k2 (ah k3 (ah k4 (ah k5 (ah k6 (ah k7 (ah k8 (ah k9 (ah k10 (ah k11 (ah k12 (ah k13 k14)))))))))))))
 exact aZ
theorem ao8 (a:ak) (t:Task) (k:Int) (hk:t.inv.kind=2) (hd:t.dn=false) (R:iH) (hst:Fn Tryz.prog 279 [.agg a.enc,.agg t.enc,I k] [] (dW R) [] []):Fn Tryz.prog 199 [.agg a.enc,.agg t.enc,I k] [] (dW R) [] []:=by
 have k1:(t.inv.kind==1)=false:=by simp [hk]
 have k2:(t.inv.kind==2)=true:=by simp [hk]
 have k3:(t.inv.kind==3)=false:=by simp [hk]
 have k4:(t.inv.kind==4)=false:=by simp [hk]
 have k5:(t.inv.kind==5)=false:=by simp [hk]
 have k6:(t.inv.kind==6)=false:=by simp [hk]
 have k7:(t.inv.kind==7)=false:=by simp [hk]
 have k8:(t.inv.kind==8)=false:=by simp [hk]
 have k9:(t.inv.kind==9)=false:=by simp [hk]
 have k10:(t.inv.kind==10)=false:=by simp [hk]
 have k11:(t.inv.kind==11)=false:=by simp [hk]
 have k12:(t.inv.kind==12)=false:=by simp [hk]
 have k13:(t.inv.kind==13)=false:=by simp [hk]
 have k14:(t.inv.kind==14)=false:=by simp [hk]
 refine Fn.aN ni (by simp) ?_
 unfold lY SC.mk' ak.enc Task.enc
 simp only [go_sem]
 have hJ:=ah hd (ah k1 (ah k2 (ah k3 (ah k4 (ah k5 (ah k6 (ah k7 (ah k8 (ah k9 (ah k10 (ah k11 (ah k12 (ah k13 k14)))))))))))))
 exact aZ
theorem ao9 (a:ak) (t:Task) (k:Int) (hk:t.inv.kind=3) (hd:t.dn=false) (R:iH) (hst:Fn Tryz.prog 280 [.agg a.enc,.agg t.enc,I k] [] (dW R) [] []):Fn Tryz.prog 199 [.agg a.enc,.agg t.enc,I k] [] (dW R) [] []:=by
 have k1:(t.inv.kind==1)=false:=by simp [hk]
 have k2:(t.inv.kind==2)=false:=by simp [hk]
 have k3:(t.inv.kind==3)=true:=by simp [hk]
 have k4:(t.inv.kind==4)=false:=by simp [hk]
 have k5:(t.inv.kind==5)=false:=by simp [hk]
 have k6:(t.inv.kind==6)=false:=by simp [hk]
 have k7:(t.inv.kind==7)=false:=by simp [hk]
 have k8:(t.inv.kind==8)=false:=by simp [hk]
 have k9:(t.inv.kind==9)=false:=by simp [hk]
 have k10:(t.inv.kind==10)=false:=by simp [hk]
 have k11:(t.inv.kind==11)=false:=by simp [hk]
 have k12:(t.inv.kind==12)=false:=by simp [hk]
 have k13:(t.inv.kind==13)=false:=by simp [hk]
 have k14:(t.inv.kind==14)=false:=by simp [hk]
 refine Fn.aN ni (by simp) ?_
 unfold lY SC.mk' ak.enc Task.enc
 simp only [go_sem]
 have hJ:=ah hd (ah k1 (ah k2 (ah k3 (ah k4 (ah k5 (ah k6 (ah k7 (ah k8 (ah k9 (ah k10 (ah k11 (ah k12 (ah k13 k14)))))))))))))
 exact aZ
theorem apa (a:ak) (t:Task) (k:Int) (hk:t.inv.kind=4) (hd:t.dn=false) (R:iH) (hst:Fn Tryz.prog 280 [.agg a.enc,.agg t.enc,I k] [] (dW R) [] []):Fn Tryz.prog 199 [.agg a.enc,.agg t.enc,I k] [] (dW R) [] []:=by
 have k1:(t.inv.kind==1)=false:=by simp [hk]
 have k2:(t.inv.kind==2)=false:=by simp [hk]
 have k3:(t.inv.kind==3)=false:=by simp [hk]
 have k4:(t.inv.kind==4)=true:=by simp [hk]
 have k5:(t.inv.kind==5)=false:=by simp [hk]
 have k6:(t.inv.kind==6)=false:=by simp [hk]
 have k7:(t.inv.kind==7)=false:=by simp [hk]
 have k8:(t.inv.kind==8)=false:=by simp [hk]
 have k9:(t.inv.kind==9)=false:=by simp [hk]
 have k10:(t.inv.kind==10)=false:=by simp [hk]
 have k11:(t.inv.kind==11)=false:=by simp [hk]
 have k12:(t.inv.kind==12)=false:=by simp [hk]
 have k13:(t.inv.kind==13)=false:=by simp [hk]
 have k14:(t.inv.kind==14)=false:=by simp [hk]
 refine Fn.aN ni (by simp) ?_
 unfold lY SC.mk' ak.enc Task.enc
 simp only [go_sem]
 have hJ:=ah hd (ah k1 (ah k2 (ah k3 (ah k4 (ah k5 (ah k6 (ah k7 (ah k8 (ah k9 (ah k10 (ah k11 (ah k12 (ah k13 k14)))))))))))))
 exact aZ
theorem apb (a:ak) (t:Task) (k:Int) (hk:t.inv.kind=5) (hd:t.dn=false) (R:iH) (hst:Fn Tryz.prog 280 [.agg a.enc,.agg t.enc,I k] [] (dW R) [] []):Fn Tryz.prog 199 [.agg a.enc,.agg t.enc,I k] [] (dW R) [] []:=by
 have k1:(t.inv.kind==1)=false:=by simp [hk]
 have k2:(t.inv.kind==2)=false:=by simp [hk]
 have k3:(t.inv.kind==3)=false:=by simp [hk]
 have k4:(t.inv.kind==4)=false:=by simp [hk]
 have k5:(t.inv.kind==5)=true:=by simp [hk]
 have k6:(t.inv.kind==6)=false:=by simp [hk]
 have k7:(t.inv.kind==7)=false:=by simp [hk]
 have k8:(t.inv.kind==8)=false:=by simp [hk]
 have k9:(t.inv.kind==9)=false:=by simp [hk]
 have k10:(t.inv.kind==10)=false:=by simp [hk]
 have k11:(t.inv.kind==11)=false:=by simp [hk]
 have k12:(t.inv.kind==12)=false:=by simp [hk]
 have k13:(t.inv.kind==13)=false:=by simp [hk]
 have k14:(t.inv.kind==14)=false:=by simp [hk]
 refine Fn.aN ni (by simp) ?_
 unfold lY SC.mk' ak.enc Task.enc
 simp only [go_sem]
 have hJ:=ah hd (ah k1 (ah k2 (ah k3 (ah k4 (ah k5 (ah k6 (ah k7 (ah k8 (ah k9 (ah k10 (ah k11 (ah k12 (ah k13 k14)))))))))))))
 exact aZ
theorem apc (a:ak) (t:Task) (k:Int) (hk:t.inv.kind=6) (hd:t.dn=false) (R:iH) (hst:Fn Tryz.prog 281 [.agg a.enc,.agg t.enc,I k] [] (dW R) [] []):Fn Tryz.prog 199 [.agg a.enc,.agg t.enc,I k] [] (dW R) [] []:=by
 have k1:(t.inv.kind==1)=false:=by simp [hk]
 have k2:(t.inv.kind==2)=false:=by simp [hk]
 have k3:(t.inv.kind==3)=false:=by simp [hk]
 have k4:(t.inv.kind==4)=false:=by simp [hk]
 have k5:(t.inv.kind==5)=false:=by simp [hk]
 have k6:(t.inv.kind==6)=true:=by simp [hk]
 have k7:(t.inv.kind==7)=false:=by simp [hk]
 have k8:(t.inv.kind==8)=false:=by simp [hk]
 have k9:(t.inv.kind==9)=false:=by simp [hk]
 have k10:(t.inv.kind==10)=false:=by simp [hk]
 have k11:(t.inv.kind==11)=false:=by simp [hk]
 have k12:(t.inv.kind==12)=false:=by simp [hk]
 have k13:(t.inv.kind==13)=false:=by simp [hk]
 have k14:(t.inv.kind==14)=false:=by simp [hk]
 refine Fn.aN ni (by simp) ?_
 unfold lY SC.mk' ak.enc Task.enc
 simp only [go_sem]
 have hJ:=ah hd (ah k1 (ah k2 (ah k3 (ah k4 (ah k5 (ah k6 (ah k7 (ah k8 (ah k9 (ah k10 (ah k11 (ah k12 (ah k13 k14)))))))))))))
 exact aZ
theorem apd (a:ak) (t:Task) (k:Int) (hk:t.inv.kind=7) (hd:t.dn=false) (R:iH) (hst:Fn Tryz.prog 282 [.agg a.enc,.agg t.enc,I k] [] (dW R) [] []):Fn Tryz.prog 199 [.agg a.enc,.agg t.enc,I k] [] (dW R) [] []:=by
 have k1:(t.inv.kind==1)=false:=by simp [hk]
 have k2:(t.inv.kind==2)=false:=by simp [hk]
 have k3:(t.inv.kind==3)=false:=by simp [hk]
 have k4:(t.inv.kind==4)=false:=by simp [hk]
 have k5:(t.inv.kind==5)=false:=by simp [hk]
 have k6:(t.inv.kind==6)=false:=by simp [hk]
 have k7:(t.inv.kind==7)=true:=by simp [hk]
 have k8:(t.inv.kind==8)=false:=by simp [hk]
 have k9:(t.inv.kind==9)=false:=by simp [hk]
 have k10:(t.inv.kind==10)=false:=by simp [hk]
 have k11:(t.inv.kind==11)=false:=by simp [hk]
 have k12:(t.inv.kind==12)=false:=by simp [hk]
 have k13:(t.inv.kind==13)=false:=by simp [hk]
 have k14:(t.inv.kind==14)=false:=by simp [hk]
 refine Fn.aN ni (by simp) ?_
 unfold lY SC.mk' ak.enc Task.enc
 simp only [go_sem]
 have hJ:=ah hd (ah k1 (ah k2 (ah k3 (ah k4 (ah k5 (ah k6 (ah k7 (ah k8 (ah k9 (ah k10 (ah k11 (ah k12 (ah k13 k14)))))))))))))
 exact aZ
theorem ape (a:ak) (t:Task) (k:Int) (hk:t.inv.kind=8) (hd:t.dn=false) (R:iH) (hst:Fn Tryz.prog 283 [.agg a.enc,.agg t.enc,I k] [] (dW R) [] []):Fn Tryz.prog 199 [.agg a.enc,.agg t.enc,I k] [] (dW R) [] []:=by
 have k1:(t.inv.kind==1)=false:=by simp [hk]
 have k2:(t.inv.kind==2)=false:=by simp [hk]
 have k3:(t.inv.kind==3)=false:=by simp [hk]
 have k4:(t.inv.kind==4)=false:=by simp [hk]
 have k5:(t.inv.kind==5)=false:=by simp [hk]
 have k6:(t.inv.kind==6)=false:=by simp [hk]
 have k7:(t.inv.kind==7)=false:=by simp [hk]
 have k8:(t.inv.kind==8)=true:=by simp [hk]
 have k9:(t.inv.kind==9)=false:=by simp [hk]
 have k10:(t.inv.kind==10)=false:=by simp [hk]
 have k11:(t.inv.kind==11)=false:=by simp [hk]
 have k12:(t.inv.kind==12)=false:=by simp [hk]
 have k13:(t.inv.kind==13)=false:=by simp [hk]
 have k14:(t.inv.kind==14)=false:=by simp [hk]
 refine Fn.aN ni (by simp) ?_
 unfold lY SC.mk' ak.enc Task.enc
 simp only [go_sem]
 have hJ:=ah hd (ah k1 (ah k2 (ah k3 (ah k4 (ah k5 (ah k6 (ah k7 (ah k8 (ah k9 (ah k10 (ah k11 (ah k12 (ah k13 k14)))))))))))))
 exact aZ
theorem apf (a:ak) (t:Task) (k:Int) (hk:t.inv.kind=9) (hd:t.dn=false) (R:iH) (hst:Fn Tryz.prog 284 [.agg a.enc,.agg t.enc,I k] [] (dW R) [] []):Fn Tryz.prog 199 [.agg a.enc,.agg t.enc,I k] [] (dW R) [] []:=by
 have k1:(t.inv.kind==1)=false:=by simp [hk]
 have k2:(t.inv.kind==2)=false:=by simp [hk]
 have k3:(t.inv.kind==3)=false:=by simp [hk]
 have k4:(t.inv.kind==4)=false:=by simp [hk]
 have k5:(t.inv.kind==5)=false:=by simp [hk]
 have k6:(t.inv.kind==6)=false:=by simp [hk]
 have k7:(t.inv.kind==7)=false:=by simp [hk]
 have k8:(t.inv.kind==8)=false:=by simp [hk]
 have k9:(t.inv.kind==9)=true:=by simp [hk]
 have k10:(t.inv.kind==10)=false:=by simp [hk]
 have k11:(t.inv.kind==11)=false:=by simp [hk]
 have k12:(t.inv.kind==12)=false:=by simp [hk]
 have k13:(t.inv.kind==13)=false:=by simp [hk]
 have k14:(t.inv.kind==14)=false:=by simp [hk]
 refine Fn.aN ni (by simp) ?_
 unfold lY SC.mk' ak.enc Task.enc
 simp only [go_sem]
 have hJ:=ah hd (ah k1 (ah k2 (ah k3 (ah k4 (ah k5 (ah k6 (ah k7 (ah k8 (ah k9 (ah k10 (ah k11 (ah k12 (ah k13 k14)))))))))))))
 exact aZ
theorem apg (a:ak) (t:Task) (k:Int) (hk:t.inv.kind=10) (hd:t.dn=false) (R:iH) (hst:Fn Tryz.prog 285 [.agg a.enc,.agg t.enc,I k] [] (dW R) [] []):Fn Tryz.prog 199 [.agg a.enc,.agg t.enc,I k] [] (dW R) [] []:=by
 have k1:(t.inv.kind==1)=false:=by simp [hk]
 have k2:(t.inv.kind==2)=false:=by simp [hk]
 have k3:(t.inv.kind==3)=false:=by simp [hk]
 have k4:(t.inv.kind==4)=false:=by simp [hk]
 have k5:(t.inv.kind==5)=false:=by simp [hk]
 have k6:(t.inv.kind==6)=false:=by simp [hk]
 have k7:(t.inv.kind==7)=false:=by simp [hk]
 have k8:(t.inv.kind==8)=false:=by simp [hk]
 have k9:(t.inv.kind==9)=false:=by simp [hk]
 have k10:(t.inv.kind==10)=true:=by simp [hk]
 have k11:(t.inv.kind==11)=false:=by simp [hk]
 have k12:(t.inv.kind==12)=false:=by simp [hk]
 have k13:(t.inv.kind==13)=false:=by simp [hk]
 have k14:(t.inv.kind==14)=false:=by simp [hk]
 refine Fn.aN ni (by simp) ?_
 unfold lY SC.mk' ak.enc Task.enc
 simp only [go_sem]
 have hJ:=ah hd (ah k1 (ah k2 (ah k3 (ah k4 (ah k5 (ah k6 (ah k7 (ah k8 (ah k9 (ah k10 (ah k11 (ah k12 (ah k13 k14)))))))))))))
 exact aZ
theorem aph (a:ak) (t:Task) (k:Int) (hk:t.inv.kind=11) (hd:t.dn=false) (R:iH) (hst:Fn Tryz.prog 286 [.agg a.enc,.agg t.enc,I k] [] (dW R) [] []):Fn Tryz.prog 199 [.agg a.enc,.agg t.enc,I k] [] (dW R) [] []:=by
 have k1:(t.inv.kind==1)=false:=by simp [hk]
 have k2:(t.inv.kind==2)=false:=by simp [hk]
 have k3:(t.inv.kind==3)=false:=by simp [hk]
 have k4:(t.inv.kind==4)=false:=by simp [hk]
 have k5:(t.inv.kind==5)=false:=by simp [hk]
 have k6:(t.inv.kind==6)=false:=by simp [hk]
 have k7:(t.inv.kind==7)=false:=by simp [hk]
 have k8:(t.inv.kind==8)=false:=by simp [hk]
 have k9:(t.inv.kind==9)=false:=by simp [hk]
 have k10:(t.inv.kind==10)=false:=by simp [hk]
 have k11:(t.inv.kind==11)=true:=by simp [hk]
 have k12:(t.inv.kind==12)=false:=by simp [hk]
 have k13:(t.inv.kind==13)=false:=by simp [hk]
 have k14:(t.inv.kind==14)=false:=by simp [hk]
 refine Fn.aN ni (by simp) ?_
 unfold lY SC.mk' ak.enc Task.enc
 simp only [go_sem]
 have hJ:=ah hd (ah k1 (ah k2 (ah k3 (ah k4 (ah k5 (ah k6 (ah k7 (ah k8 (ah k9 (ah k10 (ah k11 (ah k12 (ah k13 k14)))))))))))))
 exact aZ
theorem apj (a:ak) (t:Task) (k:Int) (hk:t.inv.kind=12) (hd:t.dn=false) (R:iH) (hst:Fn Tryz.prog 287 [.agg a.enc,.agg t.enc,I k] [] (dW R) [] []):Fn Tryz.prog 199 [.agg a.enc,.agg t.enc,I k] [] (dW R) [] []:=by
 have k1:(t.inv.kind==1)=false:=by simp [hk]
 have k2:(t.inv.kind==2)=false:=by simp [hk]
 have k3:(t.inv.kind==3)=false:=by simp [hk]
 have k4:(t.inv.kind==4)=false:=by simp [hk]
 have k5:(t.inv.kind==5)=false:=by simp [hk]
 have k6:(t.inv.kind==6)=false:=by simp [hk]
 have k7:(t.inv.kind==7)=false:=by simp [hk]
 have k8:(t.inv.kind==8)=false:=by simp [hk]
 have k9:(t.inv.kind==9)=false:=by simp [hk]
 have k10:(t.inv.kind==10)=false:=by simp [hk]
 have k11:(t.inv.kind==11)=false:=by simp [hk]
 have k12:(t.inv.kind==12)=true:=by simp [hk]
 have k13:(t.inv.kind==13)=false:=by simp [hk]
 have k14:(t.inv.kind==14)=false:=by simp [hk]
 refine Fn.aN ni (by simp) ?_
 unfold lY SC.mk' ak.enc Task.enc
 simp only [go_sem]
 have hJ:=ah hd (ah k1 (ah k2 (ah k3 (ah k4 (ah k5 (ah k6 (ah k7 (ah k8 (ah k9 (ah k10 (ah k11 (ah k12 (ah k13 k14)))))))))))))
 exact aZ
theorem apk (a:ak) (t:Task) (k:Int) (hk:t.inv.kind=13) (hd:t.dn=false) (R:iH) (hst:Fn Tryz.prog 287 [.agg a.enc,.agg t.enc,I k] [] (dW R) [] []):Fn Tryz.prog 199 [.agg a.enc,.agg t.enc,I k] [] (dW R) [] []:=by
 have k1:(t.inv.kind==1)=false:=by simp [hk]
 have k2:(t.inv.kind==2)=false:=by simp [hk]
 have k3:(t.inv.kind==3)=false:=by simp [hk]
 have k4:(t.inv.kind==4)=false:=by simp [hk]
 have k5:(t.inv.kind==5)=false:=by simp [hk]
 have k6:(t.inv.kind==6)=false:=by simp [hk]
 have k7:(t.inv.kind==7)=false:=by simp [hk]
 have k8:(t.inv.kind==8)=false:=by simp [hk]
 have k9:(t.inv.kind==9)=false:=by simp [hk]
 have k10:(t.inv.kind==10)=false:=by simp [hk]
 have k11:(t.inv.kind==11)=false:=by simp [hk]
 have k12:(t.inv.kind==12)=false:=by simp [hk]
 have k13:(t.inv.kind==13)=true:=by simp [hk]
 have k14:(t.inv.kind==14)=false:=by simp [hk]
 refine Fn.aN ni (by simp) ?_
 unfold lY SC.mk' ak.enc Task.enc
 simp only [go_sem]
 have hJ:=ah hd (ah k1 (ah k2 (ah k3 (ah k4 (ah k5 (ah k6 (ah k7 (ah k8 (ah k9 (ah k10 (ah k11 (ah k12 (ah k13 k14)))))))))))))
 exact aZ
theorem apl (a:ak) (t:Task) (k:Int) (hk:t.inv.kind=14) (hd:t.dn=false) (R:iH) (hst:Fn Tryz.prog 288 [.agg a.enc,.agg t.enc,I k] [] (dW R) [] []):Fn Tryz.prog 199 [.agg a.enc,.agg t.enc,I k] [] (dW R) [] []:=by
 have k1:(t.inv.kind==1)=false:=by simp [hk]
 have k2:(t.inv.kind==2)=false:=by simp [hk]
 have k3:(t.inv.kind==3)=false:=by simp [hk]
 have k4:(t.inv.kind==4)=false:=by simp [hk]
 have k5:(t.inv.kind==5)=false:=by simp [hk]
 have k6:(t.inv.kind==6)=false:=by simp [hk]
 have k7:(t.inv.kind==7)=false:=by simp [hk]
 have k8:(t.inv.kind==8)=false:=by simp [hk]
 have k9:(t.inv.kind==9)=false:=by simp [hk]
 have k10:(t.inv.kind==10)=false:=by simp [hk]
 have k11:(t.inv.kind==11)=false:=by simp [hk]
 have k12:(t.inv.kind==12)=false:=by simp [hk]
 have k13:(t.inv.kind==13)=false:=by simp [hk]
 have k14:(t.inv.kind==14)=true:=by simp [hk]
 refine Fn.aN ni (by simp) ?_
 unfold lY SC.mk' ak.enc Task.enc
 simp only [go_sem]
 have hJ:=ah hd (ah k1 (ah k2 (ah k3 (ah k4 (ah k5 (ah k6 (ah k7 (ah k8 (ah k9 (ah k10 (ah k11 (ah k12 (ah k13 k14)))))))))))))
 exact aZ
theorem apm (a:ak) (t:Task) (k:Int) (hk:t.inv.kind<1∨14<t.inv.kind) (hd:t.dn=false):Fn Tryz.prog 199 [.agg a.enc,.agg t.enc,I k] [] (dW (fO 9)) [] []:=by
 have k1:(t.inv.kind==1)=false:=by simp;omega
 have k2:(t.inv.kind==2)=false:=by simp;omega
 have k3:(t.inv.kind==3)=false:=by simp;omega
 have k4:(t.inv.kind==4)=false:=by simp;omega
 have k5:(t.inv.kind==5)=false:=by simp;omega
 have k6:(t.inv.kind==6)=false:=by simp;omega
 have k7:(t.inv.kind==7)=false:=by simp;omega
 have k8:(t.inv.kind==8)=false:=by simp;omega
 have k9:(t.inv.kind==9)=false:=by simp;omega
 have k10:(t.inv.kind==10)=false:=by simp;omega
 have k11:(t.inv.kind==11)=false:=by simp;omega
 have k12:(t.inv.kind==12)=false:=by simp;omega
 have k13:(t.inv.kind==13)=false:=by simp;omega
 have k14:(t.inv.kind==14)=false:=by simp;omega
 refine Fn.aN ni (by simp) ?_
 unfold lY SC.mk' ak.enc Task.enc
 simp only [go_sem]
 have aI:=kR 9
 have hJ:=ah hd (ah k1 (ah k2 (ah k3 (ah k4 (ah k5 (ah k6 (ah k7 (ah k8 (ah k9 (ah k10 (ah k11 (ah k12 (ah k13 k14)))))))))))))
 exact aZ
end Go.Eng
namespace Go.Eng
open Go Go.Proofs
theorem apn {l ms:List ai} (h:gy l=0):gy (l++ms)=gy ms:=by
 induction l with
 |nil=>rfl
 |cons m r ih=>
  simp only [gy] at h
  split at h
  ·contradiction
  ·rename_i hv
   simp only [List.cons_append,gy,if_neg hv]
   exact ih h
theorem apo (d:Dead) (hl:d.l.length≤100000):Fn Tryz.prog 449 [.agg d.enc] [] (I d.room) [] []:=abg d.cap d.l hl
theorem apq (d:Dead) (l:List ai):Oc d.cap d.l l= .aF [.agg (d.put l).1.enc,I (d.put l).2]:=by
 unfold Oc Dead.put Dead.val Dead.room Aj
 by_cases h:jb d.cap d.l=0
 ·have e:=apn (ms:=l) (CX h).2.2.2.1
  simp only [h,ne_eq,not_true_eq_false,if_false]
  unfold jf
  rw [e]
  by_cases h1:d.cap - d.l.length<l.length
  ·simp only [if_pos h1];rfl
  ·simp only [if_neg h1]
   by_cases h2:gy l=0
   ·simp only [h2,ne_eq,not_true_eq_false,if_false]
    by_cases h3:dup (d.l++l)=true
    ·simp only [h3,if_true];simp;rfl
    ·simp only [h3,if_false];simp;rfl
   ·simp only [ne_eq,h2,not_false_eq_true,if_true];rfl
 ·simp only [ne_eq,h,not_false_eq_true,if_true];rfl
theorem apr (d:Dead) (l:List ai) (h1:d.l.length≤10000) (h2:l.length≤10000):Fn Tryz.prog 450 [.agg d.enc,.sl 7 (l.map ai.enc)] [] (.aF [.agg (d.put l).1.enc,I (d.put l).2]) [] []:=by
 have h:=ama d.cap d.l l h1 h2
 rw [apq] at h
 exact h
theorem aps (d:Dead) (k ep:Int):takeA d.cap d.l k ep= .aF [.agg (d.take k ep).1.enc,.sl 7 ((d.take k ep).2.1.map ai.enc),I (d.take k ep).2.2]:=by
 unfold takeA Dead.take yJ Dead.val
 by_cases h:jb d.cap d.l=0
 ·simp only [h,ne_eq,not_true_eq_false,if_false]
  by_cases h1:ep<0
  ·simp [h1];first|rfl|exact ⟨rfl,rfl⟩
  by_cases h2:65536<ep
  ·simp [h2];first|rfl|exact ⟨rfl,rfl⟩
  by_cases h3:k<0
  ·simp [h1,h2,h3];first|rfl|exact ⟨rfl,rfl⟩
  ·simp [h1,h2,h3];first|rfl|exact ⟨rfl,rfl⟩
 ·simp only [ne_eq,h,not_false_eq_true,if_true];rfl
theorem apt (d:Dead) (k ep:Int) (h1:d.l.length≤10000):Fn Tryz.prog 427 [.agg d.enc,I k,I ep] [] (.aF [.agg (d.take k ep).1.enc,.sl 7 ((d.take k ep).2.1.map ai.enc),I (d.take k ep).2.2]) [] []:=by
 have h:=amb d.cap d.l k ep h1
 rw [aps] at h
 exact h
theorem take_len (d:Dead) (k ep:Int):(d.take k ep).2.1.length≤d.l.length:=by
 have:=WI k ep d.l
 unfold Dead.take
 repeat' split
 all_goals first|exact Nat.zero_le _|(simp only;omega)
theorem apu (d:Dead) (ep:Int):Oe d.cap d.l ep= .aF [.agg (d.clean ep).1.enc,I (d.clean ep).2.1,I (d.clean ep).2.2]:=by
 unfold Oe Dead.clean yJ Dead.val
 by_cases h:jb d.cap d.l=0
 ·simp only [h,ne_eq,not_true_eq_false,if_false]
  by_cases h1:ep<0
  ·simp [h1];first|rfl|exact ⟨rfl,rfl⟩
  by_cases h2:65536<ep
  ·simp [h2];first|rfl|exact ⟨rfl,rfl⟩
  ·simp [h1,h2];first|rfl|exact ⟨rfl,rfl⟩
 ·simp only [ne_eq,h,not_false_eq_true,if_true];rfl
theorem apv (d:Dead) (ep:Int) (h1:d.l.length≤10000):Fn Tryz.prog 445 [.agg d.enc,I ep] [] (.aF [.agg (d.clean ep).1.enc,I (d.clean ep).2.1,I (d.clean ep).2.2]) [] []:=by
 have h:=amc d.cap d.l ep h1
 rw [apu] at h
 exact h
theorem adh (s:aj) (now ep li:Int):(s.expire now ep li).2.1.length≤13:=by
 have:=acB s.aP now ep
 unfold aj.expire
 repeat' split
 all_goals first|exact Nat.zero_le _|omega
theorem O3 (l:List Int) (j:Nat) (h:j<l.length):(gW (l.take j)).map dD.enc++[[I (gI l j),I 0,I 0,I 0]]=(gW (l.take (j+1))).map dD.enc:=by
 rw [Dx 0 h]
 simp [gW,dD.enc,gI]
@[simp] theorem arG:gW []=[]:=rfl
@[simp] theorem jv (l:List Int):(gW l).length=l.length:=by simp [gW]
theorem iW (t:Task) (k:Int):Fn Tryz.prog 409 [.agg t.enc,I k] [] (.agg [I t.sec.aG.stamp,I t.number,I t.entry,I k,I t.sec.aG.clock,I t.sec.aG.epoch,I 0,Nl,I 0,I 0]) [] []:=by
 refine Fn.aN aaW (by simp) ?_
 unfold NK SC.mk' Task.enc
 simp only [go_sem]
 exact aX
theorem apw (s:ax):Fn Tryz.prog 408 [.agg s.enc] [] (.agg [.sl 8 (s.shards.map aj.enc),I s.dead.cap,.sl 7 (s.dead.l.map ai.enc),Nl,Nl,Nl]) [] []:=by
 refine Fn.aN aaV (by simp) ?_
 unfold NJ SC.mk' ax.enc
 simp only [go_sem]
 exact aX
end Go.Eng
namespace Go.Eng
open Go Go.Proofs
attribute [local go_sem] ak.enc ax.enc Task.enc Ev.enc bG.enc bf.enc dG.enc Dead.enc Dir.enc aj.enc Walk.enc aV.enc aH.enc bT.enc Setup.enc aS fD fE List.length_map
theorem adi (d:Dir) (home:Int) (hd:d.l.length≤70000):Fn Tryz.prog 352 [.agg d.enc,I home] [] (I (rQ d home)) [] []:=by
 generalize hR:rQ d home=R
 unfold rQ at hR
 refine Fn.aT bY ai5 (by simp) ?_
 unfold Tz SC.mk' Dir.enc
 simp only [go_sem]
 have aI:=anJ d home hd
 have aU:=acH d 0 hd
 have hJ:=trivial
 exact aZ
theorem X5 (t:Task) (hl:t.sec.aW) (h1:0<t.sec.shards.length):Fn Tryz.prog 420 [.agg t.enc] [] (.aF [.agg (lF t).1.enc,.sl 1 (encI (lF t).2.1),.sl 8 ((lF t).2.2.map Lease.enc)]) [] []:=by
 generalize hR:lF t=R
 unfold lF at hR
 simp only at hR
 have hn:=lI h1
 have hsm:=oV hl 0
 have hlt:=mr hl 0
 generalize eH t.sec.shards 0=s at hR hn hsm hlt
 have hx:=acC s t.sec.aG.clock t.sec.aG.epoch t.setup.limit hsm
 have hxl:=XD t.sec.aG.clock t.sec.aG.epoch t.setup.limit hlt
 generalize s.expire t.sec.aG.clock t.sec.aG.epoch t.setup.limit=x at hR hx hxl
 have hy:=anz x.1 t.inv.max_ t.sec.aG.clock t.inv.vis t.sec.aG.epoch t.setup.limit (by have:=hxl.1;have:=hxl.2;constructor<;>omega)
 generalize x.1.take t.inv.max_ t.sec.aG.clock t.inv.vis t.sec.aG.epoch t.setup.limit=y at hR hy
 refine Fn.aT bY ajx (by simp) ?_
 unfold Uk SC.mk' Task.enc
 simp only [hn,aj.enc,List.length_map,go_sem]
 repeat (refine bn ?_)
 have hJ:=trivial
 exact aZ
end Go.Eng
namespace Go.Eng
open Go Go.Proofs
attribute [local go_sem] ak.enc ax.enc Task.enc Ev.enc bG.enc bf.enc dG.enc Dead.enc Dir.enc aj.enc Walk.enc aV.enc aH.enc bT.enc Setup.enc aS fD fE List.length_map
theorem Fn.wk {P:Program} {f:FuncId} {xs:List AV} {r r':AV} (hF:Fn P f xs [] r [] []) (h:rv [] [] [] r' r):Fn P f xs [] r' [] []:=by
 refine ⟨hF.1,fun C ρ U w vals hr hU hv=>(hF.2 C ρ U w vals hr hU hv).mono fun e w' he=> ?_⟩
 obtain ⟨v,ρ',U',rfl,h1,h2⟩:=he
 exact ⟨v,_,_,rfl,BZ (S:=[]) (N:=[]) h1 rfl trivial trivial,pM (S:=[]) (N:=[]) h1 h2 _ h⟩
theorem apx (h:Hd):∃ e,Fn Tryz.prog 185 [.agg h.enc] [] (.aF [iM (FN h),I e]) [] []:=by
 have hf:=Fz h
 unfold encR at hf
 unfold FN
 split at hf
 ·rename_i hk
  simp only [hk,if_true]
  exact ⟨_,hf⟩
 ·rename_i hk
  simp only [hk,if_false]
  exact ⟨1,hf.wk (by simp [rv,au,eG])⟩
theorem apy (s:aj) (mx now vis ep li:Int):(s.take mx now vis ep li).2.1.length≤6:=by
 unfold aj.take
 split
 ·exact Nat.zero_le _
 split
 ·exact Nat.zero_le _
 split
 ·exact Nat.zero_le _
 ·rename_i h _
  have:=Oy mx (now+vis) ep li s.ready.list s [] (by simp;omega)
  simp only
  omega
theorem X6 (t:Task):(lF t).2.2.length≤1000:=Nat.le_trans (apy _ _ _ _ _ _) (by omega)
theorem apz (t:Task) (hl:t.sec.aW) (h1:0<t.sec.shards.length):Fn Tryz.prog 356 [.agg t.enc] [] (.agg (AX t).enc) [] []:=by
 generalize hR:AX t=R
 unfold AX at hR
 have htk:=X5 t hl h1
 have hL:=X6 t
 generalize lF t=x at hR htk hL
 generalize zk:x.2.2=L at hR htk hL
 generalize hT:(fun x:Lease=>FN ⟨x.msg.id,x.msg.gen,x.msg.route,t.slot⟩)=T at hR
 have mx:∀ j:Nat,j≤10000→j≤maxLen:=fun j h=>Nat.le_trans h (by decide)
 refine Fn.aT bY ai8 (by simp) ?_
 unfold TD SC.mk' Task.enc
 simp only [go_sem]
 have hJ:=trivial
 repeat' first
  |(first|refine sC ?_|refine sD ?_|refine sZ ?_|refine sY ?_|refine sF ?_);simp only [hJ,go_sem]
  |(first|refine bF (fun hq=> ?_) (fun hq=> ?_)|refine dY (fun hq=> ?_) (fun hq=> ?_)|refine dL (fun hq=> ?_) (fun hq=> ?_))<;>simp only [hq,hJ,go_sem]
  |refine sM ?_;simp only [ay,rv,au,get,hJ,go_sem]
  |refine bn ?_
  |fail
 all_goals clear hJ
 refine go_loop (fun j:{j:Nat // j≤L.length}=>⟨5000,[(1,.ptr 8 0),(2,.ptr 16 0),(3,.ptr 24 0),(6,.sl 8 (L.map Lease.enc)),(7,I j.1)],[(24,.box [I 0,I 0,.own 4000 1 0 j.1,.own 4008 1 0 j.1,I 0,I 0,I 0]),(4000,.row 46 1 (dm ((L.take j.1).map T))),(4008,.row 9 1 (encS ((L.take j.1).map fun x=>x.msg.body))),(16,.box [I 0,I 0,Nl,Nl,I 0,I 0,I 0]),(8,.box [I t.number,I t.inv.kind,I t.inv.home,I t.inv.max_,I t.inv.vis,I t.inv.bC,I t.inv.to,.sl 1 (encS t.inv.bodies),.sl 1 (dm t.inv.tokens),I t.invoked,Bo t.dn,I t.ended,I t.pc,I t.entry,.sl 7 (t.results.map aV.enc),I t.setup.slots,I t.setup.live,I t.setup.capacity,I t.setup.dead,I t.setup.limit,I t.setup.clock,I t.setup.fQ,I t.setup.epoch,I t.sec.phase,I t.sec.at_,.sl 1 (encI t.sec.lock.cells),I t.sec.lock.phase,I t.sec.lock.got,I t.sec.lock.tries,I t.sec.lock.wait,I t.sec.aG.phase,I t.sec.aG.epoch,I t.sec.aG.clock,I t.sec.aG.stamp,.sl 8 (t.sec.shards.map aj.enc),I t.sec.dead.cap,.sl 7 (t.sec.dead.l.map ai.enc),.sl 4 (t.sec.cu.map aH.enc),I t.sec.dir.version,.sl 3 (t.sec.dir.l.map Span.enc),.sl 1 (encI t.sec.dir.aJ),.sl 8 (t.sec.out.shards.map aj.enc),I t.sec.out.dead.cap,.sl 7 (t.sec.out.dead.l.map ai.enc),.sl 1 (encI t.sec.out.order),.sl 7 (t.sec.out.carry.map ai.enc),.sl 4 (t.sec.out.dS.map bT.enc),I t.sec.limit,.sl 7 (t.sec.carry.map ai.enc),I t.dir.version,.sl 3 (t.dir.l.map Span.enc),.sl 1 (encI t.dir.aJ),I t.walk.next,I t.walk.covered,I t.slot,I t.id,I t.hnd.id,I t.hnd.gen,I t.hnd.route,I t.hnd.hint,I t.loaded,.sl 4 (t.first.map aH.enc),.sl 4 (t.second.map aH.enc)])]⟩) (fun j=>L.length - j.1) ⟨0,by omega⟩ (wk [(8,8),(16,16),(24,24)] [4000,4008]) ?_
 rintro ⟨j,hj⟩ B hB
 simp only [go_sem]
 by_cases e1:j<L.length
 ·have e2:decide ((j:Int)<(L.length:Int))=true:=by simp;omega
  have hx:nth (L.map Lease.enc) j=Lease.enc (L[j]?.getD Lease.z):=bZ Lease.enc Lease.z e1
  have hw:=cZ (show j≤100000 by omega)
  have hm1:=mx (j+1) (by omega)
  have ht:L.take (j+1)=L.take j++[L[j]?.getD Lease.z]:=Dx Lease.z e1
  generalize L[j]?.getD Lease.z=m at hx ht
  have l1:(L.take j).length=j:=by simp;omega
  have e3:List.take j (dm ((L.take j).map T))=dm ((L.take j).map T):=bD (by simp [dm];omega)
  have e4:List.take j (encS ((L.take j).map fun x=>x.msg.body))=encS ((L.take j).map fun x=>x.msg.body):=bD (by simp [encS];omega)
  have e5:dm ((L.take j).map T)++[[iM (FN ⟨m.msg.id,m.msg.gen,m.msg.route,t.slot⟩)]]=dm ((L.take (j+1)).map T):=by rw [ht,←hT];simp [dm]
  have e6:encS ((L.take j).map fun x=>x.msg.body)++[[.v (.string m.msg.body)]]=encS ((L.take (j+1)).map fun x=>x.msg.body):=by rw [ht];simp [encS]
  have l2:(dm ((L.take j).map T)).length=j:=by simp [dm];omega
  have l3:(encS ((L.take j).map fun x=>x.msg.body)).length=j:=by simp [encS];omega
  obtain ⟨ee,hE⟩:=apx ⟨m.msg.id,m.msg.gen,m.msg.route,t.slot⟩
  simp only [e2,hx,hw,Int.toNat_natCast,List.length_map,Lease.enc,go_sem]
  repeat' first
   |(refine wz ?_;simp only [e2,hx,hw,e3,e4,e5,e6,l1,l2,l3,Int.toNat_natCast,List.length_map,Lease.enc,go_sem])
   |(refine aO (hE) rfl rfl ?_;simp only [e2,hx,hw,e3,e4,e5,e6,l1,l2,l3,Int.toNat_natCast,List.length_map,Lease.enc,go_sem])
   |(refine dh (hE) rfl rfl ?_;simp only [e2,hx,hw,e3,e4,e5,e6,l1,l2,l3,Int.toNat_natCast,List.length_map,Lease.enc,go_sem])
   |refine bn ?_
   |fail
  exact hB _ ⟨j+1,by omega⟩ (by simp only;omega) (wk [(8,8),(16,16),(24,24),(4000,5240),(4008,5304)] [])
 ·have e2:decide ((j:Int)<(L.length:Int))=false:=by simp;omega
  have ht:L.take j=L:=bD (by omega)
  have hjL:j=L.length:=by omega
  clear hB
  have e3:List.take j (dm (L.map T))=dm (L.map T):=bD (by simp [dm];omega)
  have e4:List.take j (encS (L.map fun x=>x.msg.body))=encS (L.map fun x=>x.msg.body):=bD (by simp [encS];omega)
  have l2:(dm (L.map T)).length=j:=by simp [dm];omega
  have l3:(encS (L.map fun x=>x.msg.body)).length=j:=by simp [encS];omega
  simp only [e2,ht,List.length_map,go_sem]
  have hJ:=ah e3 (ah e4 (ah l2 l3))
  exact aZ
end Go.Eng
