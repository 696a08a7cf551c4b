/-
  Part of a proof: lemmas and definitions of this work.
  No condition.
-/
import Derived.Test.YtmfankbjapjjiaaGreatA08
import Derived.Test.YtmfankbjapjjiaaGreatA35
set_option linter.all false
set_option maxRecDepth 100000
set_option maxHeartbeats 8000000
namespace Go.Eng
open Go Go.Proofs
attribute [local go_sem] aj.enc av.enc Task.enc Ev.enc bE.enc aW.enc cB.enc Dead.enc Dir.enc ak.enc Walk.enc aU.enc aI.enc bN.enc Setup.enc aS dX dY List.length_map
theorem NV (t:Task) (hl:t.sec.bf) (h2:t.sec.aN.length=2):Fn Tryz.prog 287 [.agg t.enc] [] (Kr (rf t)) [] []:=by
 generalize hR:rf t=R
 unfold rf at hR
 simp only at hR
 have hs:=aoE t h2
 have s1:=Xp hl
 have s2:=Xq hl
 have ho:=ad1 t
 have hp:=aoF t
 generalize iM t=od at hR ho
 generalize jW t=v at hR hs s1
 generalize lK t=w at hR hs s2
 have da:=aoD v
 by_cases c1:(!v.live|| !w.live)=true
 ·simp only [if_pos c1] at hR
  refine Fn.aT bS Rx (by simp) ?_
  unfold JP SC.mk' Task.enc
  simp only [go_sem]
  have aK:=fF t.sec
  have hJ:=c1
  exact aZ
 simp only [if_neg c1] at hR
 simp only [Bool.not_eq_true] at c1
 simp only [Bool.or_eq_false_iff,Bool.not_eq_eq_eq_not,Bool.not_false] at c1
 obtain ⟨c1,c1'⟩:=c1
 generalize hk:min ((IntKind.i64.wrap (v.ready.size+1)).tdiv 2) (IntKind.i64.wrap ((w.ready.cells.length:Int) - w.stored))=k at hR
 by_cases c2:(k==0)=true
 ·simp only [if_pos c2] at hR
  refine Fn.aT bS Rx (by simp) ?_
  unfold JP SC.mk' Task.enc
  simp only [go_sem]
  have aK:=fF t.sec
  have aV:=nA w s2
  have hJ:=ah c1 (ah c1' (ah c2 (ah wq hk)))
  exact aZ
 simp only [if_neg c2] at hR
 simp only [Bool.not_eq_true] at c2
 generalize hx:v.iG k=x at hR
 have hd:=amo v k s1
 have da:=da k
 rw [hx] at hd da
 generalize hy:(w.sP x.2.1).1=y at hR
 have hp:=hp x.1 y
 generalize placed t x.1 y=pl at hR hp
 refine Fn.aT bS Rx (by simp) ?_
 unfold JP SC.mk' Task.enc
 simp only [go_sem]
 have aK:=fF t.sec
 have aV:=nA w s2
 have bL:=adg w x.2.1 s2 da
 have hJ:=ah c1 (ah c1' (ah c2 (ah wq (ah hk hy))))
 exact aZ
end Go.Eng
