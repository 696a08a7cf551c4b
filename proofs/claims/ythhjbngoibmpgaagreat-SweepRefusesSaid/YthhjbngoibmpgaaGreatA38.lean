/-
  Part of a proof: lemmas and definitions of this work.
  No condition.
-/
import Derived.Test.YthhjbngoibmpgaaGreatA08
import Derived.Test.YthhjbngoibmpgaaGreatA29
set_option linter.all false
set_option maxRecDepth 100000
set_option maxHeartbeats 8000000
namespace Go.Eng
open Go Go.Proofs
attribute [local go_sem] aj.enc av.enc Task.enc Ev.enc bD.enc bf.enc cB.enc Dead.enc Dir.enc ak.enc Walk.enc aV.enc aJ.enc bL.enc Setup.enc aS dY dZ List.length_map
theorem aoo (a:aj) (t:Task) (k:Int) (hl:t.aW) (hk:t.inv.kind=6) (hd:t.dn=false):Fn Tryz.prog 228 [.agg a.enc,.agg t.enc,I k] [] (dA (oM a t k)) [] []:=by
 generalize hR:oM a t k=R
 unfold oM at hR
 simp only at hR
 have hg:t.guard 6 6=0:=by simp [Task.guard,hd,hk]
 simp only [hg,ne_eq,not_true_eq_false,if_false] at hR
 have h1:=kJ hl
 have h2:=kK hl
 have ld:=adk a
 by_cases p0:(t.pc==0)=true
 ·simp only [if_pos p0] at hR
  refine Fn.aT bY aaC (by simp) ?_
  unfold Mx SC.mk' aj.enc Task.enc
  simp only [go_sem]
  have aK:=bZ t 6 6
  have aU:=zo a 1
  have bK:=DU t 7 k
  have dV:=iH {t with loaded:=a.epoch} {aV.z with err:=6} k h1 h2
  try dsimp only at dV
  have hJ:=ah hg (ah p0 ld)
  exact aY
 simp only [if_neg p0] at hR
 simp only [Bool.not_eq_true] at p0
 generalize hw:IntKind.i64.wrap (t.loaded+1)=w at hR
 refine Fn.aT bY aaC (by simp) ?_
 unfold Mx SC.mk' aj.enc Task.enc
 simp only [go_sem]
 try simp only [hw]
 have aK:=bZ t 6 6
 have aU:=DU t 7 k
 have bK:=acW a 1 t.loaded w
 have dV:=jY (a.lY 1 t.loaded w).2.2
 have fQ:=iH t aV.z k h1 h2
 have hJ:=ah hg (ah p0 hw)
 exact aY
theorem aop (a:aj) (t:Task) (k:Int) {n:Nat} (ha:a.wf n) (hl:t.aW) (hk:t.inv.kind=7) (hd:t.dn=false):Fn Tryz.prog 229 [.agg a.enc,.agg t.enc,I k] [] (dA (oN a t k)) [] []:=by
 generalize hR:oN a t k=R
 unfold oN at hR
 simp only at hR
 have hg:t.guard 7 7=0:=by simp [Task.guard,hd,hk]
 simp only [hg,ne_eq,not_true_eq_false,if_false] at hR
 have h1:=kJ hl
 have h2:=kK hl
 have h3:=hl.fi
 have h4:=hl.sc
 have hsl:=DR ha
 have mx:∀ j:Nat,j<=10000->j<=maxLen:=fun j h=>Nat.le_trans h (by decide)
 have m1:=mx 1 (by omega)
 have m2:=mx t.first.length (by omega)
 have m3:=mx (t.first.length+1) (by omega)
 have m4:=mx t.second.length (by omega)
 have m5:=mx (t.second.length+1) (by omega)
 clear mx
 have ld:=adk a
 by_cases p0:(t.pc==0)=true
 ·simp only [if_pos p0] at hR
  refine Fn.aT bY sH (by simp) ?_
  unfold qa SC.mk' aj.enc Task.enc
  simp only [go_sem]
  have aK:=bZ t 7 7
  have aU:=zo a 1
  have hJ:=ah hg (ah p0 ld)
  exact aY
 simp only [if_neg p0] at hR
 simp only [Bool.not_eq_true] at p0
 by_cases p1:(t.pc==1)=true
 ·simp only [if_pos p1] at hR
  generalize hx:a.ql t.first.length=x at hR
  have MS:=aml (t.first++[x.1]) (by simp only [List.length_append,List.length_cons,List.length_nil];omega)
  have hld:=WI a t.first.length hsl
  rw [hx] at hld
  by_cases e:x.2≠0
  ·rw [if_pos e] at hR
   have e':(x.2 !=0)=true:=by simpa using e
   clear MS
   refine Fn.aT bY sH (by simp) ?_
   unfold qa SC.mk' aj.enc Task.enc
   simp only [go_sem]
   have aK:=bZ t 7 7
   have aU:=jY x.2
   have hJ:=ah hg (ah p0 (ah p1 e'))
   exact aY
  rw [if_neg e] at hR
  have e':(x.2 !=0)=false:=by simpa using e
  by_cases q1:(((t.first++[x.1]).length:Int)==t.setup.slots)=true
  ·have q1':(((t.first.length+1:Nat):Int)==t.setup.slots)=true:=by rw [List.length_append] at q1;exact q1
   simp only [q1,if_true] at hR
   by_cases q2:Bd (t.first++[x.1])=true
   ·simp only [q2,if_true] at hR
    refine Fn.aT bR sH (by simp) ?_
    unfold qa SC.mk' aj.enc Task.enc
    simp only [go_sem]
    have aK:=bZ t 7 7
    have hJ:=ah hg (ah p0 (ah p1 (ah e' (ah q1' q2))))
    exact aY
   ·simp only [q2,Bool.false_eq_true,if_false] at hR
    simp only [Bool.not_eq_true] at q2
    refine Fn.aT bR sH (by simp) ?_
    unfold qa SC.mk' aj.enc Task.enc
    simp only [go_sem]
    have aK:=bZ t 7 7
    have hJ:=ah hg (ah p0 (ah p1 (ah e' (ah q1' q2))))
    exact aY
  ·have q1':(((t.first.length+1:Nat):Int)==t.setup.slots)=false:=by rw [List.length_append] at q1;simpa using q1
   simp only [q1,Bool.false_eq_true,if_false] at hR
   refine Fn.aT bY sH (by simp) ?_
   unfold qa SC.mk' aj.enc Task.enc
   simp only [go_sem]
   have aK:=bZ t 7 7
   have hJ:=ah hg (ah p0 (ah p1 (ah e' q1')))
   exact aY
 simp only [if_neg p1] at hR
 simp only [Bool.not_eq_true] at p1
 by_cases p2:(t.pc==2)=true
 ·simp only [if_pos p2] at hR
  generalize hx:a.ql t.second.length=x at hR
  have hld:=WI a t.second.length hsl
  rw [hx] at hld
  have MS:=amn t.first (t.second++[x.1]) (by omega)
  by_cases e:x.2≠0
  ·rw [if_pos e] at hR
   have e':(x.2 !=0)=true:=by simpa using e
   clear MS
   refine Fn.aT bY sH (by simp) ?_
   unfold qa SC.mk' aj.enc Task.enc
   simp only [go_sem]
   have aK:=bZ t 7 7
   have aU:=jY x.2
   have hJ:=ah hg (ah p0 (ah p1 (ah p2 e')))
   exact aY
  rw [if_neg e] at hR
  have e':(x.2 !=0)=false:=by simpa using e
  by_cases q1:(((t.second++[x.1]).length:Int)==t.setup.slots)=true
  ·have q1':(((t.second.length+1:Nat):Int)==t.setup.slots)=true:=by rw [List.length_append] at q1;exact q1
   simp only [q1,if_true] at hR
   by_cases q2:uX t.first (t.second++[x.1])=true
   ·simp only [q2,if_true] at hR
    refine Fn.aT bR sH (by simp) ?_
    unfold qa SC.mk' aj.enc Task.enc
    simp only [go_sem]
    have aK:=bZ t 7 7
    have hJ:=ah hg (ah p0 (ah p1 (ah p2 (ah e' (ah q1' q2)))))
    exact aY
   ·simp only [q2,Bool.false_eq_true,if_false] at hR
    simp only [Bool.not_eq_true] at q2
    refine Fn.aT bR sH (by simp) ?_
    unfold qa SC.mk' aj.enc Task.enc
    simp only [go_sem]
    have aK:=bZ t 7 7
    have hJ:=ah hg (ah p0 (ah p1 (ah p2 (ah e' (ah q1' q2)))))
    exact aY
  ·have q1':(((t.second.length+1:Nat):Int)==t.setup.slots)=false:=by rw [List.length_append] at q1;simpa using q1
   simp only [q1,Bool.false_eq_true,if_false] at hR
   refine Fn.aT bY sH (by simp) ?_
   unfold qa SC.mk' aj.enc Task.enc
   simp only [go_sem]
   have aK:=bZ t 7 7
   have hJ:=ah hg (ah p0 (ah p1 (ah p2 (ah e' q1'))))
   exact aY
 simp only [if_neg p2] at hR
 simp only [Bool.not_eq_true] at p2
 have hsu:=amm t.first a.epoch (by omega)
 generalize tq a.epoch t.first 0 0=x at hR hsu
 refine Fn.aT bY sH (by simp) ?_
 unfold qa SC.mk' aj.enc Task.enc
 simp only [go_sem]
 have aK:=bZ t 7 7
 have aU:=zo a 1
 have bK:=DU t 8 t.id
 have dV:=iH t {aV.z with ready:=x.1,eF:=x.2} k h1 h2
 try dsimp only at dV
 have hJ:=ah hg (ah p0 (ah p1 (ah p2 ld)))
 exact aY
end Go.Eng
