/-
  Part of a proof: lemmas and definitions of this work.
  No condition.
-/
import Derived.Test.YtmhaehngejengaaGreatA12
import Derived.Test.YtmhaehngejengaaGreatA31
set_option linter.all false
set_option maxRecDepth 100000
set_option maxHeartbeats 8000000
namespace Go.Eng
open Go Go.Proofs
attribute [local go_sem] ak.enc ax.enc Task.enc Ev.enc bG.enc bf.enc dG.enc Dead.enc Dir.enc aj.enc Walk.enc aV.enc aH.enc bT.enc Setup.enc aS fD fE List.length_map
theorem apN (a:ak) (t:Task) (k:Int) (hl:t.aW) (hk:t.inv.kind=6) (hd:t.dn=false):Fn Tryz.prog 281 [.agg a.enc,.agg t.enc,I k] [] (dW (qx a t k)) [] []:=by
 generalize hR:qx a t k=R
 unfold qx at hR
 simp only at hR
 have hg:t.guard 6 6=0:=by simp [Task.guard,hd,hk]
 simp only [hg,ne_eq,not_true_eq_false,if_false] at hR
 have h1:=lJ hl
 have h2:=lK hl
 have ld:=adg a
 by_cases p0:(t.pc==0)=true
 ·simp only [if_pos p0] at hR
  refine Fn.aT dA aaR (by simp) ?_
  unfold NE SC.mk' ak.enc Task.enc
  simp only [go_sem]
  have aI:=dw t 6 6
  have aU:=Bj a 1
  have bK:=F6 t 7 k
  have eF:=ji {t with loaded:=a.epoch} {aV.z with err:=6} k h1 h2
  try dsimp only at eF
  have hJ:=ah hg (ah p0 ld)
  exact aY
 simp only [if_neg p0] at hR
 simp only [Bool.not_eq_true] at p0
 generalize hw:IntKind.i64.wrap (t.loaded+1)=w at hR
 refine Fn.aT dA aaR (by simp) ?_
 unfold NE SC.mk' ak.enc Task.enc
 simp only [go_sem]
 try simp only [hw]
 have aI:=dw t 6 6
 have aU:=F6 t 7 k
 have bK:=acS a 1 t.loaded w
 have eF:=kR (a.nG 1 t.loaded w).2.2
 have iw:=ji t aV.z k h1 h2
 have hJ:=ah hg (ah p0 hw)
 exact aY
theorem apO (a:ak) (t:Task) (k:Int) {n:Nat} (ha:a.wf n) (hl:t.aW) (hk:t.inv.kind=7) (hd:t.dn=false):Fn Tryz.prog 282 [.agg a.enc,.agg t.enc,I k] [] (dW (qy a t k)) [] []:=by
 generalize hR:qy a t k=R
 unfold qy at hR
 simp only at hR
 have hg:t.guard 7 7=0:=by simp [Task.guard,hd,hk]
 simp only [hg,ne_eq,not_true_eq_false,if_false] at hR
 have h1:=lJ hl
 have h2:=lK hl
 have h3:=hl.fi
 have h4:=hl.sc
 have hsl:=FZ ha
 have mx:∀ j:Nat,j≤10000→j≤maxLen:=fun j h=>Nat.le_trans h (by decide)
 have m1:=mx 1 (by omega)
 have m2:=mx t.first.length (by omega)
 have m3:=mx (t.first.length+1) (by omega)
 have m4:=mx t.second.length (by omega)
 have m5:=mx (t.second.length+1) (by omega)
 clear mx
 have ld:=adg a
 by_cases p0:(t.pc==0)=true
 ·simp only [if_pos p0] at hR
  refine Fn.aT dA uQ (by simp) ?_
  unfold rD SC.mk' ak.enc Task.enc
  simp only [go_sem]
  have aI:=dw t 7 7
  have aU:=Bj a 1
  have hJ:=ah hg (ah p0 ld)
  exact aY
 simp only [if_neg p0] at hR
 simp only [Bool.not_eq_true] at p0
 by_cases p1:(t.pc==1)=true
 ·simp only [if_pos p1] at hR
  generalize hx:a.rP t.first.length=x at hR
  have NS:=anP (t.first++[x.1]) (by simp only [List.length_append,List.length_cons,List.length_nil];omega)
  have hld:=Xz a t.first.length hsl
  rw [hx] at hld
  by_cases e:x.2≠0
  ·rw [if_pos e] at hR
   have e':(x.2 !=0)=true:=by simpa using e
   clear NS
   refine Fn.aT dA uQ (by simp) ?_
   unfold rD SC.mk' ak.enc Task.enc
   simp only [go_sem]
   have aI:=dw t 7 7
   have aU:=kR x.2
   have hJ:=ah hg (ah p0 (ah p1 e'))
   exact aY
  rw [if_neg e] at hR
  have e':(x.2 !=0)=false:=by simpa using e
  by_cases q1:(((t.first++[x.1]).length:Int)==t.setup.slots)=true
  ·have q1':(((t.first.length+1:Nat):Int)==t.setup.slots)=true:=by rw [List.length_append] at q1;exact q1
   simp only [q1,if_true] at hR
   by_cases q2:Dq (t.first++[x.1])=true
   ·simp only [q2,if_true] at hR
    refine Fn.aT bY uQ (by simp) ?_
    unfold rD SC.mk' ak.enc Task.enc
    simp only [go_sem]
    have aI:=dw t 7 7
    have hJ:=ah hg (ah p0 (ah p1 (ah e' (ah q1' q2))))
    exact aY
   ·simp only [q2,Bool.false_eq_true,if_false] at hR
    simp only [Bool.not_eq_true] at q2
    refine Fn.aT bY uQ (by simp) ?_
    unfold rD SC.mk' ak.enc Task.enc
    simp only [go_sem]
    have aI:=dw t 7 7
    have hJ:=ah hg (ah p0 (ah p1 (ah e' (ah q1' q2))))
    exact aY
  ·have q1':(((t.first.length+1:Nat):Int)==t.setup.slots)=false:=by rw [List.length_append] at q1;simpa using q1
   simp only [q1,Bool.false_eq_true,if_false] at hR
   refine Fn.aT dA uQ (by simp) ?_
   unfold rD SC.mk' ak.enc Task.enc
   simp only [go_sem]
   have aI:=dw t 7 7
   have hJ:=ah hg (ah p0 (ah p1 (ah e' q1')))
   exact aY
 simp only [if_neg p1] at hR
 simp only [Bool.not_eq_true] at p1
 by_cases p2:(t.pc==2)=true
 ·simp only [if_pos p2] at hR
  generalize hx:a.rP t.second.length=x at hR
  have hld:=Xz a t.second.length hsl
  rw [hx] at hld
  have NS:=anR t.first (t.second++[x.1]) (by omega)
  by_cases e:x.2≠0
  ·rw [if_pos e] at hR
   have e':(x.2 !=0)=true:=by simpa using e
   clear NS
   refine Fn.aT dA uQ (by simp) ?_
   unfold rD SC.mk' ak.enc Task.enc
   simp only [go_sem]
   have aI:=dw t 7 7
   have aU:=kR x.2
   have hJ:=ah hg (ah p0 (ah p1 (ah p2 e')))
   exact aY
  rw [if_neg e] at hR
  have e':(x.2 !=0)=false:=by simpa using e
  by_cases q1:(((t.second++[x.1]).length:Int)==t.setup.slots)=true
  ·have q1':(((t.second.length+1:Nat):Int)==t.setup.slots)=true:=by rw [List.length_append] at q1;exact q1
   simp only [q1,if_true] at hR
   by_cases q2:wY t.first (t.second++[x.1])=true
   ·simp only [q2,if_true] at hR
    refine Fn.aT bY uQ (by simp) ?_
    unfold rD SC.mk' ak.enc Task.enc
    simp only [go_sem]
    have aI:=dw t 7 7
    have hJ:=ah hg (ah p0 (ah p1 (ah p2 (ah e' (ah q1' q2)))))
    exact aY
   ·simp only [q2,Bool.false_eq_true,if_false] at hR
    simp only [Bool.not_eq_true] at q2
    refine Fn.aT bY uQ (by simp) ?_
    unfold rD SC.mk' ak.enc Task.enc
    simp only [go_sem]
    have aI:=dw t 7 7
    have hJ:=ah hg (ah p0 (ah p1 (ah p2 (ah e' (ah q1' q2)))))
    exact aY
  ·have q1':(((t.second.length+1:Nat):Int)==t.setup.slots)=false:=by rw [List.length_append] at q1;simpa using q1
   simp only [q1,Bool.false_eq_true,if_false] at hR
   refine Fn.aT dA uQ (by simp) ?_
   unfold rD SC.mk' ak.enc Task.enc
   simp only [go_sem]
   have aI:=dw t 7 7
   have hJ:=ah hg (ah p0 (ah p1 (ah p2 (ah e' q1'))))
   exact aY
 simp only [if_neg p2] at hR
 simp only [Bool.not_eq_true] at p2
 have hsu:=anQ t.first a.epoch (by omega)
 generalize vC a.epoch t.first 0 0=x at hR hsu
 refine Fn.aT dA uQ (by simp) ?_
 unfold rD SC.mk' ak.enc Task.enc
 simp only [go_sem]
 have aI:=dw t 7 7
 have aU:=Bj a 1
 have bK:=F6 t 8 t.id
 have eF:=ji t {aV.z with ready:=x.1,fB:=x.2} k h1 h2
 try dsimp only at eF
 have hJ:=ah hg (ah p0 (ah p1 (ah p2 ld)))
 exact aY
end Go.Eng
