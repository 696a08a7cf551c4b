/-
  Part of a proof: lemmas and definitions of this work.
  No condition.
-/
import Derived.Test.YthhjbngoibmpgaaGreatA08
import Derived.Test.YthhjbngoibmpgaaGreatA50
import Derived.Test.YthhjbngoibmpgaaGreatB00
set_option linter.all false
set_option maxRecDepth 100000
set_option maxHeartbeats 8000000
namespace Go.Eng
open Go Go.Proofs
attribute [local go_sem] aj.enc av.enc Task.enc Ev.enc bD.enc bf.enc cB.enc Dead.enc Dir.enc ak.enc Walk.enc aV.enc aJ.enc bL.enc Setup.enc aS dY dZ List.length_map
theorem apv (t:Task) (h:t.guard 10 10≠0):Fn Tryz.prog 77 [.agg t.enc] [] (I (t.guard 10 10)) [] []:=by
 by_cases hd:t.dn=true
 ·have hR:t.guard 10 10=7:=by simp [Task.guard,hd]
  rw [hR]
  refine Fn.aO XA (by simp) ?_
  unfold Oc SC.mk' Task.enc
  simp only [hd,go_sem]
  exact Fin.bI _ rfl rfl rfl rfl
 simp only [Bool.not_eq_true] at hd
 have hk:t.inv.kind<10\/10<t.inv.kind:=by
  simp only [Task.guard,hd] at h
  simp at h
  omega
 have hR:t.guard 10 10=9:=by simp [Task.guard,hd];omega
 rw [hR]
 have h1:(t.inv.kind==10)=false:=by simp;omega
 have h2:(t.inv.kind !=10)=true:=by simp;omega
 refine Fn.aO XA (by simp) ?_
 unfold Oc SC.mk' Task.enc
 simp only [hd,h1,h2,go_sem]
 exact Fin.bI _ rfl rfl rfl rfl
theorem apw (e:Int):Fn Tryz.prog 76 [I e] [] (dA (dN e)) [] []:=by
 refine Fn.aO apf (by simp) ?_
 unfold Xz SC.mk'
 simp only [go_sem]
 exact Fin.aD _ rfl rfl (by simp [ay,dA,dN,rv,au,aj.enc,Task.enc])
theorem apx (a:aj) (t:Task) (k:Int) (h:t.guard 10 10≠0):Fn Tryz.prog 29 [.agg a.enc,.agg t.enc,I k] [] (dA (dN (t.guard 10 10))) [] []:=by
 have hr:=apv t h
 have hf:=apw (t.guard 10 10)
 generalize t.guard 10 10=g at h hr hf
 have g1:(g==0)=false:=by simpa using h
 have g2:(g !=0)=true:=by simpa using h
 refine Fn.aT bY adL (by simp) ?_
 unfold Xx SC.mk' aj.enc Task.enc
 simp only [go_sem]
 have hJ:=ah g1 g2
 exact aZ
end Go.Eng
namespace Go.Eng
open Go Go.Proofs
theorem apy (l:List Int) (hA:Fn Tryz.prog 30 [] [] (Bo true) [] []):Fn Tryz.prog 5 [.sl 1 (encI l)] [] (Bo true) [] []:=by
 have hl:(l.take 4000).length<=4000:=by simp;omega
 have hw:Fn Tryz.prog 12 [.ptr 0 0,I 10] [dU (l.take 4000) 0] (.agg (o6 (l.take 4000) 10 0).1.enc) [dU (l.take 4000) (o6 (l.take 4000) 10 0).2] []:=Xt (l.take 4000) 0 10 hl (by omega)
 generalize o6 (l.take 4000) 10 0=w at hw
 refine Fn.aO ok5 (by simp) ?_
 unfold s5 SC.mk'
 simp only [go_sem]
 refine x9 (Vu l) rfl rfl (by simp) (by simp [dX]) ?_
 simp only [dB,sh,go_sem]
 refine d9 (b:=24) hw ⟨rfl,⟨rfl,rfl⟩,trivial⟩ rfl rfl rfl rfl ?_
 simp only [aH.enc,go_sem]
 refine go_loop (fun k:{k:Nat // k<=16}=>⟨5000,[(4,.ptr 56 0),(5,I k.1)],[(56,.box w.1.enc)]⟩) (fun k=>16 - k.1) ⟨0,by omega⟩ (Wk.mk [(56,56)] [] rfl rfl (by simp only [cZ,bO,au,rv,aH.enc,go_sem]<;>try simp) trivial (by simp only [eG,rv,au,go_sem]<;>try simp)) ?_
 rintro ⟨k,hk⟩ B hB
 simp only [aH.enc,go_sem]
 by_cases e1:k<=15
 ·have e2:decide ((k:Int)<=15)=true:=by simp;omega
  have hw2:=bT (show k<=100000 by omega)
  have key:∀ dn:Bool,(dn=true\/¬ (k:Int)=10)->Task.guard {Task.z with number:=1,inv:={bM.z with kind:=(k:Int),bodies:=[⟨#[97]⟩],tokens:=[[1]]},setup:=w.1.setup,dn:=dn} 10 10=(if dn then 7 else 9):=by
   intro dn h
   unfold Task.guard
   cases dn with
   |true=>simp
   |false=>
    have h2:¬ (k:Int)=10:=by simpa using h
    have h3:(decide ((k:Int)<10)||decide (10<(k:Int)))=true:=by simp;omega
    simp [h3]
  have call:∀ dn:Bool,(dn=true\/¬ (k:Int)=10)->Fn Tryz.prog 29 [.agg w.1.arena.enc,.agg (Task.enc {Task.z with number:=1,inv:={bM.z with kind:=(k:Int),bodies:=[⟨#[97]⟩],tokens:=[[1]]},setup:=w.1.setup,dn:=dn}),I 5] [] (dA (dN (if dn then 7 else 9))) [] []:=by
   intro dn h
   have:=apx w.1.arena {Task.z with number:=1,inv:={bM.z with kind:=(k:Int),bodies:=[⟨#[97]⟩],tokens:=[[1]]},setup:=w.1.setup,dn:=dn} 5 (by rw [key dn h];cases dn<;>simp)
   rw [key dn h] at this
   exact this
  simp only [e2,hw2,go_sem]
  refine ⟨by omega,?_⟩
  by_cases mr:((k:Int)==10)=true
  ·have hc:=call true (.inl rfl)
   simp only [mr,go_sem]
   refine jk hc ?_ rfl rfl rfl ?_
   ·simp [au,rv,get,aj.enc,Task.enc,encS,bW,dL]
   simp only [dN,dA,aj.enc,Task.enc,hw2,go_sem]
   exact hB _ ⟨k+1,by omega⟩ (by simp only;omega) (Wk.mk [(56,56)] [] rfl rfl (by simp only [cZ,bO,au,rv,aH.enc,go_sem]<;>try simp) trivial (by simp only [eG,rv,au,hw2,go_sem]<;>try simp))
  ·simp only [Bool.not_eq_true] at mr
   have hc:=call ((k:Int).tmod 2==0) (.inr (by simpa using mr))
   generalize ((k:Int).tmod 2==0)=dn at hc ⊢
   simp only [mr,go_sem]
   refine jk hc ?_ rfl rfl rfl ?_
   ·simp [au,rv,get,aj.enc,Task.enc,encS,bW,dL]
   cases dn
   all_goals
    simp only [dN,dA,aj.enc,Task.enc,hw2,go_sem]
    exact hB _ ⟨k+1,by omega⟩ (by simp only;omega) (Wk.mk [(56,56)] [] rfl rfl (by simp only [cZ,bO,au,rv,aH.enc,go_sem]<;>try simp) trivial (by simp only [eG,rv,au,hw2,go_sem]<;>try simp))
 ·have e2:decide ((k:Int)<=15)=false:=by simp;omega
  simp only [e2,go_sem]
  refine aQ hA rfl rfl ?_
  simp only [go_sem]
  exact Fin.bI _ rfl rfl rfl rfl
end Go.Eng
