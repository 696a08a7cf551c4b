/-
  Part of a proof: lemmas and definitions of this work.
  No condition.
-/
import Derived.Test.YthhjbngoibmpgaaGreatA08
import Derived.Test.YthhjbngoibmpgaaGreatA29
set_option linter.all false
set_option maxRecDepth 100000
set_option maxHeartbeats 8000000
namespace Go.Eng
open Go Go.Proofs
attribute [local go_sem] aj.enc av.enc Task.enc Ev.enc bD.enc bf.enc cB.enc Dead.enc Dir.enc ak.enc Walk.enc aV.enc aJ.enc bL.enc Setup.enc aS dY dZ List.length_map
theorem Xn (k:Int):Fn Tryz.prog 90 [I k] [] (I (setKind k)) [] []:=by
 generalize hR:setKind k=R
 unfold setKind at hR
 refine Fn.aO aiq (by simp) ?_
 unfold QE SC.mk'
 simp only [go_sem]
 exact aX
theorem adr (t:Task) (hl:t.sec.aW) (h1:0<t.sec.aN.length):Fn Tryz.prog 97 [.agg t.enc] [] (.aF [.agg (settle t).1.enc,I (settle t).2]) [] []:=by
 generalize hR:settle t=R
 unfold settle at hR
 simp only at hR
 have hn:=kI h1
 have hsm:=nA hl 0
 generalize dW t.sec.aN 0=s at hR hn hsm
 refine Fn.aT bR ais (by simp) ?_
 unfold QS SC.mk' Task.enc
 simp only [hn,ak.enc,List.length_map,go_sem]
 repeat (refine bn ?_)
 have aK:=alX s t.hnd t.sec.aI.clock t.sec.aI.epoch hsm
 have aU:=alZ s t.hnd t.sec.aI.clock t.sec.aI.epoch t.setup.limit hsm
 have bK:=al0 s t.hnd t.sec.aI.clock t.sec.aI.epoch t.inv.bB hsm
 have hJ:=Hd.enc.eq_1
 exact aZ
theorem aol (t:Task) (hl:t.sec.aW) (hc:t.sec.lock.cells.length<=1000) (h1:0<t.sec.aN.length):Fn Tryz.prog 95 [.agg t.enc] [] (.aF [.agg (l9 t).1.enc,.sl 10 ((l9 t).2.map Ev.enc)]) [] []:=by
 generalize hR:l9 t=R
 unfold l9 at hR
 simp only at hR
 have hn:=kI h1
 have hsm:=nA hl 0
 have hst:=adr t hl h1
 generalize dW t.sec.aN 0=s at hR hn hsm
 generalize settle t=x at hR hst
 refine Fn.aT bR air (by simp) ?_
 unfold QN SC.mk' Task.enc
 simp only [hn,ak.enc,List.length_map,go_sem]
 repeat (refine bn ?_)
 by_cases c1:s.owns t.hnd.route=true
 ·simp only [c1,Bool.not_true,Bool.false_eq_true,if_false] at hR
  generalize hk:setKind t.inv.kind=kd at hR
  by_cases c2:(x.2==0)=true
  ·simp only [c2,if_true,Bool.true_and] at hR
   have aK:=fF t.sec
   have aU:=kG s t.hnd.route hsm
   have bK:=Xn t.inv.kind
   have dV:=jm t kd
   have fQ:=fq t {t.sec.bg with aN:=[x.1],order:=[0]} (by simp) hc
   try dsimp only at fQ
   have hJ:=ah c1 (ah c2 (ah hk hn))
   exact aZ
  ·simp only [Bool.not_eq_true] at c2
   simp only [c2,Bool.false_eq_true,if_false,Bool.false_and] at hR
   have aK:=fF t.sec
   have aU:=kG s t.hnd.route hsm
   have bK:=Xn t.inv.kind
   have dV:=jm t kd
   have fQ:=fq t t.sec.bg (by simp [av.bg]) hc
   have hJ:=ah c1 (ah c2 (ah hk hn))
   exact aZ
 ·simp only [Bool.not_eq_true] at c1
  simp only [c1,Bool.not_false,if_true] at hR
  have aK:=fF t.sec
  have aU:=kG s t.hnd.route hsm
  have bK:=fq t t.sec.bg (by simp [av.bg]) hc
  have hJ:=ah c1 hn
  exact aZ
end Go.Eng
