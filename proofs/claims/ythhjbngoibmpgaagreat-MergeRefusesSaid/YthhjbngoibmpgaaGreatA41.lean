/-
  Part of a proof: lemmas and definitions of this work.
  No condition.
-/
import Derived.Test.YthhjbngoibmpgaaGreatA08
import Derived.Test.YthhjbngoibmpgaaGreatA35
set_option linter.all false
set_option maxRecDepth 100000
set_option maxHeartbeats 8000000
namespace Go.Eng
open Go Go.Proofs
attribute [local go_sem] aj.enc av.enc Task.enc Ev.enc bD.enc bf.enc cB.enc Dead.enc Dir.enc ak.enc Walk.enc aV.enc aJ.enc bL.enc Setup.enc aS dY dZ List.length_map
theorem NU (t:Task) (hl:t.sec.aW) (h2:t.sec.aN.length=2):Fn Tryz.prog 321 [.agg t.enc] [] (DW (qZ t)) [] []:=by
 generalize hR:qZ t=R
 unfold qZ at hR
 simp only at hR
 have hs:=aoh t h2
 have s1:=Xl hl
 have s2:=Xm hl
 have ho:=adq t
 have hp:=aoi t
 generalize iL t=od at hR ho
 generalize jW t=v at hR hs s1
 generalize lI t=w at hR hs s2
 have da:=aog v
 by_cases c1:(!v.live|| !w.live)=true
 ·simp only [if_pos c1] at hR
  refine Fn.aT bR Um (by simp) ?_
  unfold Da SC.mk' Task.enc
  simp only [go_sem]
  have aK:=fF t.sec
  have hJ:=c1
  exact aZ
 simp only [if_neg c1] at hR
 simp only [Bool.not_eq_true] at c1
 simp only [Bool.or_eq_false_iff,Bool.not_eq_eq_eq_not,Bool.not_false] at c1
 obtain ⟨c1,c1'⟩:=c1
 generalize hk:min ((IntKind.i64.wrap (v.ready.size+1)).tdiv 2) (IntKind.i64.wrap ((w.ready.cells.length:Int) - w.stored))=k at hR
 by_cases c2:(k==0)=true
 ·simp only [if_pos c2] at hR
  refine Fn.aT bR Um (by simp) ?_
  unfold Da SC.mk' Task.enc
  simp only [go_sem]
  have aK:=fF t.sec
  have aU:=nu w s2
  have hJ:=ah c1 (ah c1' (ah c2 (ah wq hk)))
  exact aZ
 simp only [if_neg c2] at hR
 simp only [Bool.not_eq_true] at c2
 generalize hx:v.iF k=x at hR
 have hd:=al1 v k s1
 have da:=da k
 rw [hx] at hd da
 generalize hy:(w.sU x.2.1).1=y at hR
 have hp:=hp x.1 y
 generalize placed t x.1 y=pl at hR hp
 refine Fn.aT bR Um (by simp) ?_
 unfold Da SC.mk' Task.enc
 simp only [go_sem]
 have aK:=fF t.sec
 have aU:=nu w s2
 have bK:=acG w x.2.1 s2 da
 have hJ:=ah c1 (ah c1' (ah c2 (ah wq (ah hk hy))))
 exact aZ
end Go.Eng
