/-
  Part of a proof: lemmas and definitions of this work.
  No condition.
-/
import Derived.Test.YtmfankbjapjjiaaGreatA08
import Derived.Test.YtmfankbjapjjiaaGreatA29
set_option linter.all false
set_option maxRecDepth 100000
set_option maxHeartbeats 8000000
namespace Go.Eng
open Go Go.Proofs
attribute [local go_sem] aj.enc av.enc Task.enc Ev.enc bE.enc aW.enc cB.enc Dead.enc Dir.enc ak.enc Walk.enc aU.enc aI.enc bN.enc Setup.enc aS dX dY List.length_map
theorem Xr (k:Int):Fn Tryz.prog 276 [I k] [] (I (setKind k)) [] []:=by
 generalize hR:setKind k=R
 unfold setKind at hR
 refine Fn.aO ajb (by simp) ?_
 unfold Rj SC.mk'
 simp only [go_sem]
 exact aX
theorem ad2 (t:Task) (hl:t.sec.bf) (h1:0<t.sec.aN.length):Fn Tryz.prog 279 [.agg t.enc] [] (.aG [.agg (settle t).1.enc,I (settle t).2]) [] []:=by
 generalize hR:settle t=R
 unfold settle at hR
 simp only at hR
 have hn:=kJ h1
 have hsm:=nD hl 0
 generalize dZ t.sec.aN 0=s at hR hn hsm
 refine Fn.aT bS ajd (by simp) ?_
 unfold Ro SC.mk' Task.enc
 simp only [hn,ak.enc,List.length_map,go_sem]
 repeat (refine bn ?_)
 have aK:=amk s t.hnd t.sec.aJ.clock t.sec.aJ.epoch hsm
 have aV:=amm s t.hnd t.sec.aJ.clock t.sec.aJ.epoch t.setup.limit hsm
 have bL:=amn s t.hnd t.sec.aJ.clock t.sec.aJ.epoch t.inv.bC hsm
 have hJ:=Hd.enc.eq_1
 exact aZ
theorem aoI (t:Task) (hl:t.sec.bf) (hc:t.sec.lock.cells.length<=1000) (h1:0<t.sec.aN.length):Fn Tryz.prog 277 [.agg t.enc] [] (.aG [.agg (mq t).1.enc,.sl 10 ((mq t).2.map Ev.enc)]) [] []:=by
 generalize hR:mq t=R
 unfold mq at hR
 simp only at hR
 have hn:=kJ h1
 have hsm:=nD hl 0
 have hst:=ad2 t hl h1
 generalize dZ t.sec.aN 0=s at hR hn hsm
 generalize settle t=x at hR hst
 refine Fn.aT bS ajc (by simp) ?_
 unfold Rk SC.mk' Task.enc
 simp only [hn,ak.enc,List.length_map,go_sem]
 repeat (refine bn ?_)
 by_cases c1:s.owns t.hnd.route=true
 ·simp only [c1,Bool.not_true,Bool.false_eq_true,if_false] at hR
  generalize hk:setKind t.inv.kind=kd at hR
  by_cases c2:(x.2==0)=true
  ·simp only [c2,if_true,Bool.true_and] at hR
   have aK:=fF t.sec
   have aV:=kH s t.hnd.route hsm
   have bL:=Xr t.inv.kind
   have dV:=jr t kd
   have fT:=fo t {t.sec.bg with aN:=[x.1],order:=[0]} (by simp) hc
   try dsimp only at fT
   have hJ:=ah c1 (ah c2 (ah hk hn))
   exact aZ
  ·simp only [Bool.not_eq_true] at c2
   simp only [c2,Bool.false_eq_true,if_false,Bool.false_and] at hR
   have aK:=fF t.sec
   have aV:=kH s t.hnd.route hsm
   have bL:=Xr t.inv.kind
   have dV:=jr t kd
   have fT:=fo t t.sec.bg (by simp [av.bg]) hc
   have hJ:=ah c1 (ah c2 (ah hk hn))
   exact aZ
 ·simp only [Bool.not_eq_true] at c1
  simp only [c1,Bool.not_false,if_true] at hR
  have aK:=fF t.sec
  have aV:=kH s t.hnd.route hsm
  have bL:=fo t t.sec.bg (by simp [av.bg]) hc
  have hJ:=ah c1 hn
  exact aZ
end Go.Eng
