/-
  Part of a proof: lemmas and definitions of this work.
  No condition.
-/
import Derived.Test.YtmfankbjapjjiaaGreatA08
import Derived.Test.YtmfankbjapjjiaaGreatA50
import Derived.Test.YtmfankbjapjjiaaGreatB00
set_option linter.all false
set_option maxRecDepth 100000
set_option maxHeartbeats 8000000
namespace Go.Eng
open Go Go.Proofs
attribute [local go_sem] aj.enc av.enc Task.enc Ev.enc bE.enc aW.enc cB.enc Dead.enc Dir.enc ak.enc Walk.enc aU.enc aI.enc bN.enc Setup.enc aS dX dY List.length_map
theorem apN (t:Task) (h:t.guard 8 8≠0):Fn Tryz.prog 21 [.agg t.enc] [] (I (t.guard 8 8)) [] []:=by
 by_cases hd:t.dn=true
 ·have hR:t.guard 8 8=7:=by simp [Task.guard,hd]
  rw [hR]
  refine Fn.aO apO (by simp) ?_
  unfold s21 SC.mk' Task.enc
  simp only [hd,go_sem]
  exact Fin.bI _ rfl rfl rfl rfl
 simp only [Bool.not_eq_true] at hd
 have hk:t.inv.kind<8\/8<t.inv.kind:=by
  simp only [Task.guard,hd] at h
  simp at h
  omega
 have hR:t.guard 8 8=9:=by simp [Task.guard,hd];omega
 rw [hR]
 have h1:(t.inv.kind==8)=false:=by simp;omega
 have h2:(t.inv.kind !=8)=true:=by simp;omega
 refine Fn.aO apO (by simp) ?_
 unfold s21 SC.mk' Task.enc
 simp only [hd,h1,h2,go_sem]
 exact Fin.bI _ rfl rfl rfl rfl
theorem apQ (a:aj) (t:Task) (k:Int) (h:t.guard 8 8≠0):Fn Tryz.prog 9 [.agg a.enc,.agg t.enc,I k] [] (dw (dH (t.guard 8 8))) [] []:=by
 have hr:=apN t h
 generalize t.guard 8 8=g at h hr
 have g1:(g==0)=false:=by simpa using h
 have g2:(g !=0)=true:=by simpa using h
 refine Fn.aT bY ok9 (by simp) ?_
 unfold s9 SC.mk' aj.enc Task.enc
 simp only [go_sem]
 have hJ:=ah g1 g2
 exact aZ
end Go.Eng
namespace Go.Eng
open Go Go.Proofs
theorem apR (l:List Int) (hA:Fn Tryz.prog 10 [] [] (Bo true) [] []):Fn Tryz.prog 3 [.sl 1 (encI l)] [] (Bo true) [] []:=by
 have hl:(l.take 4000).length<=4000:=by simp;omega
 have hw:Fn Tryz.prog 8 [.ptr 0 0,I 10] [dO (l.take 4000) 0] (.agg (lM (l.take 4000) 10 0).1.enc) [dO (l.take 4000) (lM (l.take 4000) 10 0).2] []:=Oa (l.take 4000) 0 10 hl (by omega)
 generalize lM (l.take 4000) 10 0=w at hw
 refine Fn.aO ok3 (by simp) ?_
 unfold s3 SC.mk'
 simp only [go_sem]
 refine vP (fn7 l) rfl rfl (by simp) (by simp [dW]) ?_
 simp only [dB,sh,go_sem]
 refine eB (b:=24) hw ⟨rfl,⟨rfl,rfl⟩,trivial⟩ rfl rfl rfl rfl ?_
 simp only [aF.enc,go_sem]
 refine go_loop (fun k:{k:Nat // k<=16}=>⟨5000,[(4,.ptr 56 0),(5,I k.1)],[(56,.box w.1.enc)]⟩) (fun k=>16 - k.1) ⟨0,by omega⟩ (Wk.mk [(56,56)] [] rfl rfl (by simp only [cO,bK,au,rv,aF.enc,go_sem]<;>try simp) trivial (by simp only [d9,rv,au,go_sem]<;>try simp)) ?_
 rintro ⟨k,hk⟩ B hB
 simp only [aF.enc,go_sem]
 by_cases e1:k<=15
 ·have e2:decide ((k:Int)<=15)=true:=by simp;omega
  have hw2:=bQ (show k<=100000 by omega)
  have key:∀ dn:Bool,(dn=true\/¬ (k:Int)=8)->Task.guard {Task.z with number:=1,inv:={bJ.z with kind:=(k:Int),bodies:=[⟨#[97]⟩],tokens:=[[1]]},setup:=w.1.setup,dn:=dn} 8 8=(if dn then 7 else 9):=by
   intro dn h
   unfold Task.guard
   cases dn with
   |true=>simp
   |false=>
    have h2:¬ (k:Int)=8:=by simpa using h
    have h3:(decide ((k:Int)<8)||decide (8<(k:Int)))=true:=by simp;omega
    simp [h3]
  have call:∀ dn:Bool,(dn=true\/¬ (k:Int)=8)->Fn Tryz.prog 9 [.agg w.1.arena.enc,.agg (Task.enc {Task.z with number:=1,inv:={bJ.z with kind:=(k:Int),bodies:=[⟨#[97]⟩],tokens:=[[1]]},setup:=w.1.setup,dn:=dn}),I 5] [] (dw (dH (if dn then 7 else 9))) [] []:=by
   intro dn h
   have:=apQ w.1.arena {Task.z with number:=1,inv:={bJ.z with kind:=(k:Int),bodies:=[⟨#[97]⟩],tokens:=[[1]]},setup:=w.1.setup,dn:=dn} 5 (by rw [key dn h];cases dn<;>simp)
   rw [key dn h] at this
   exact this
  simp only [e2,hw2,go_sem]
  refine ⟨by omega,?_⟩
  by_cases jh:((k:Int)==8)=true
  ·have hc:=call true (.inl rfl)
   simp only [jh,go_sem]
   refine iK hc ?_ rfl rfl rfl ?_
   ·simp [au,rv,get,aj.enc,Task.enc,encS,bW,dL]
   simp only [dH,dw,aj.enc,Task.enc,hw2,go_sem]
   exact hB _ ⟨k+1,by omega⟩ (by simp only;omega) (Wk.mk [(56,56)] [] rfl rfl (by simp only [cO,bK,au,rv,aF.enc,go_sem]<;>try simp) trivial (by simp only [d9,rv,au,hw2,go_sem]<;>try simp))
  ·simp only [Bool.not_eq_true] at jh
   have hc:=call ((k:Int).tmod 2==0) (.inr (by simpa using jh))
   generalize ((k:Int).tmod 2==0)=dn at hc ⊢
   simp only [jh,go_sem]
   refine iK hc ?_ rfl rfl rfl ?_
   ·simp [au,rv,get,aj.enc,Task.enc,encS,bW,dL]
   cases dn
   all_goals
    simp only [dH,dw,aj.enc,Task.enc,hw2,go_sem]
    exact hB _ ⟨k+1,by omega⟩ (by simp only;omega) (Wk.mk [(56,56)] [] rfl rfl (by simp only [cO,bK,au,rv,aF.enc,go_sem]<;>try simp) trivial (by simp only [d9,rv,au,hw2,go_sem]<;>try simp))
 ·have e2:decide ((k:Int)<=15)=false:=by simp;omega
  simp only [e2,go_sem]
  refine aQ hA rfl rfl ?_
  simp only [go_sem]
  exact Fin.bI _ rfl rfl rfl rfl
end Go.Eng
