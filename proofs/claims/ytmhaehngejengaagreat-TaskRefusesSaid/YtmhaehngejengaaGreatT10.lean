/-
  Part of a proof: lemmas and definitions of this work.
  No condition.
-/
import Derived.Test.YtmhaehngejengaaGreatA12
import Derived.Test.YtmhaehngejengaaGreatT04
set_option linter.all false
set_option maxRecDepth 100000
set_option maxHeartbeats 8000000
namespace Go.Eng
open Go Go.Proofs
attribute [local go_sem] ak.enc ax.enc Task.enc Ev.enc bG.enc bf.enc dG.enc Dead.enc Dir.enc aj.enc Walk.enc aV.enc aH.enc bT.enc Setup.enc aS fD fE List.length_map
theorem O5 (t:Task) (hl:t.sec.aW) (h2:t.sec.shards.length=2):Fn Tryz.prog 368 [.agg t.enc] [] (F8 (tX t)) [] []:=by
 generalize hR:tX t=R
 unfold tX at hR
 simp only at hR
 have hs:=apG t h2
 have s1:=X7 hl
 have s2:=X8 hl
 have ho:=adn t
 have hp:=apH t
 generalize jm t=od at hR ho
 generalize kP t=v at hR hs s1
 generalize mO t=w at hR hs s2
 have da:=apF v
 by_cases c1:(!v.live|| !w.live)=true
 ·simp only [if_pos c1] at hR
  refine Fn.aT bY TR (by simp) ?_
  unfold Fb SC.mk' Task.enc
  simp only [go_sem]
  have aI:=gQ t.sec
  have hJ:=c1
  exact aZ
 simp only [if_neg c1] at hR
 simp only [Bool.not_eq_true] at c1
 simp only [Bool.or_eq_false_iff,Bool.not_eq_eq_eq_not,Bool.not_false] at c1
 obtain ⟨c1,c1'⟩:=c1
 generalize hk:min ((IntKind.i64.wrap (v.ready.size+1)).tdiv 2) (IntKind.i64.wrap ((w.ready.cells.length:Int) - w.stored))=k at hR
 by_cases c2:(k==0)=true
 ·simp only [if_pos c2] at hR
  refine Fn.aT bY TR (by simp) ?_
  unfold Fb SC.mk' Task.enc
  simp only [go_sem]
  have aI:=gQ t.sec
  have aU:=oQ w s2
  have hJ:=ah c1 (ah c1' (ah c2 (ah wq hk)))
  exact aZ
 simp only [if_neg c2] at hR
 simp only [Bool.not_eq_true] at c2
 generalize hx:v.jg k=x at hR
 have hd:=anu v k s1
 have da:=da k
 rw [hx] at hd da
 generalize hy:(w.vk x.2.1).1=y at hR
 have hp:=hp x.1 y
 generalize placed t x.1 y=pl at hR hp
 refine Fn.aT bY TR (by simp) ?_
 unfold Fb SC.mk' Task.enc
 simp only [go_sem]
 have aI:=gQ t.sec
 have aU:=oQ w s2
 have bK:=acD w x.2.1 s2 da
 have hJ:=ah c1 (ah c1' (ah c2 (ah wq (ah hk hy))))
 exact aZ
end Go.Eng
namespace Go.Eng
open Go Go.Proofs
attribute [local go_sem] ak.enc ax.enc Task.enc Ev.enc bG.enc bf.enc dG.enc Dead.enc Dir.enc aj.enc Walk.enc aV.enc aH.enc bT.enc Setup.enc aS fD fE List.length_map
theorem apR (a:ak) (t:Task) (k:Int) {n:Nat} (ha:a.wf n) (hal:a.aW) (ht:t.wf n) (hl:t.aW) (hk:t.inv.kind=9) (hd:t.dn=false):Fn Tryz.prog 284 [.agg a.enc,.agg t.enc,I k] [] (dW (AY a t k)) [] []:=by
 generalize hR:AY a t k=R
 unfold AY jX at hR
 simp only at hR
 have hg:t.guard 9 9=0:=by simp [Task.guard,hd,hk]
 simp only [hg,ne_eq,not_true_eq_false,if_false,pairT] at hR
 by_cases p0:(t.pc==0)=true
 ·simp only [if_pos p0] at hR
  have hse:=xB t (jJ t.inv.bC t.inv.to) 1 (by simp [jJ])
  have hs1:(t.fJ (jJ t.inv.bC t.inv.to) 1).sec.wf n∧dB n (t.fJ (jJ t.inv.bC t.inv.to) 1).sec.lock.cells=2:=⟨(Ba ht (by omega)).1,by have:=(Ba ht (by omega)).2.1;simp only [pairT] at this;rcases this with h|h<;>first|exact h|omega⟩
  have hl1:=Task.xw hl (jJ t.inv.bC t.inv.to) 1
  generalize t.fJ (jJ t.inv.bC t.inv.to) 1=t1 at hR hse hs1 hl1
  obtain ⟨hs1,hs2⟩:=hs1
  have hgo:=oW a t1 k ha hal hs1 hl1.se
  have G:=go_ok (k:=k) ha hal hs1 hl1
  generalize t1.go a k=x at hR hgo G
  by_cases e1:x.2.2.2.2≠0
  ·rw [if_pos e1] at hR
   have e1':(x.2.2.2.2 !=0)=true:=by simpa using e1
   refine Fn.aT dA yA (by simp) ?_
   unfold uS SC.mk' ak.enc Task.enc
   simp only [go_sem]
   have aI:=dw t 9 9
   have aU:=rX t.inv.bC t.inv.to
   have bK:=kR x.2.2.2.2
   have hJ:=ah hg (ah p0 e1')
   exact aZ
  rw [if_neg e1] at hR
  have e1':(x.2.2.2.2 !=0)=false:=by simpa using e1
  have G:=G (Decidable.not_not.1 e1)
  have hrl:=lJ G.l
  have hel:=lK G.l
  have hcl:=G.cl
  by_cases e2:x.2.2.1=true
  ·rw [if_pos e2] at hR
   have hsh:=G.num (by rw [G.p4 e2];omega)
   have hpl:=O5 x.2.1 G.l.se (by omega)
   have hpo:=(XU G.l).oo
   generalize tX x.2.1=y at hR hpl hpo
   refine Fn.aT dA yA (by simp) ?_
   unfold uS SC.mk' ak.enc Task.enc
   simp only [go_sem]
   have aI:=dw t 9 9
   have aU:=rX t.inv.bC t.inv.to
   have bK:=fV x.2.1 y.1 hpo hcl
   have hJ:=ah hg (ah p0 (ah e1' e2))
   exact aZ
  rw [if_neg e2] at hR
  simp only [Bool.not_eq_true] at e2
  by_cases e3:x.2.2.2.1=true
  ·simp only [e3,Bool.not_true,Bool.false_eq_true,if_false] at hR
   have hsh:=G.num (by rw [G.p9 e3];omega)
   have hpl:=O5 x.2.1 G.l.se (by omega)
   generalize tX x.2.1=y at hR hpl
   refine Fn.aT dA yA (by simp) ?_
   unfold uS SC.mk' ak.enc Task.enc
   simp only [go_sem]
   have aI:=dw t 9 9
   have aU:=rX t.inv.bC t.inv.to
   have bK:=ji x.2.1 y.2.1 k hrl hel
   have hJ:=ah hg (ah p0 (ah e1' (ah e2 e3)))
   exact aZ
  ·simp only [Bool.not_eq_true] at e3
   simp only [e3,Bool.not_false,if_true] at hR
   refine Fn.aT dA yA (by simp) ?_
   unfold uS SC.mk' ak.enc Task.enc
   simp only [go_sem]
   have aI:=dw t 9 9
   have aU:=rX t.inv.bC t.inv.to
   have hJ:=ah hg (ah p0 (ah e1' (ah e2 e3)))
   exact aZ
 ·simp only [if_neg p0] at hR
  simp only [Bool.not_eq_true] at p0
  have hs1:t.sec.wf n∧dB n t.sec.lock.cells=2:=by
   simp only [beq_eq_false_iff_ne] at p0
   rcases ht.k9 (by omega) (by omega) with h|h
   ·exact absurd h p0
   ·exact ⟨h.1,h.2.1⟩
  have hl1:=hl
  obtain ⟨hs1,hs2⟩:=hs1
  have hgo:=oW a t k ha hal hs1 hl1.se
  have G:=go_ok (k:=k) ha hal hs1 hl1
  generalize t.go a k=x at hR hgo G
  by_cases e1:x.2.2.2.2≠0
  ·rw [if_pos e1] at hR
   have e1':(x.2.2.2.2 !=0)=true:=by simpa using e1
   refine Fn.aT dA yA (by simp) ?_
   unfold uS SC.mk' ak.enc Task.enc
   simp only [go_sem]
   have aI:=dw t 9 9
   have aU:=kR x.2.2.2.2
   have hJ:=ah hg (ah p0 e1')
   exact aZ
  rw [if_neg e1] at hR
  have e1':(x.2.2.2.2 !=0)=false:=by simpa using e1
  have G:=G (Decidable.not_not.1 e1)
  have hrl:=lJ G.l
  have hel:=lK G.l
  have hcl:=G.cl
  by_cases e2:x.2.2.1=true
  ·rw [if_pos e2] at hR
   have hsh:=G.num (by rw [G.p4 e2];omega)
   have hpl:=O5 x.2.1 G.l.se (by omega)
   have hpo:=(XU G.l).oo
   generalize tX x.2.1=y at hR hpl hpo
   refine Fn.aT dA yA (by simp) ?_
   unfold uS SC.mk' ak.enc Task.enc
   simp only [go_sem]
   have aI:=dw t 9 9
   have aU:=fV x.2.1 y.1 hpo hcl
   have hJ:=ah hg (ah p0 (ah e1' e2))
   exact aZ
  rw [if_neg e2] at hR
  simp only [Bool.not_eq_true] at e2
  by_cases e3:x.2.2.2.1=true
  ·simp only [e3,Bool.not_true,Bool.false_eq_true,if_false] at hR
   have hsh:=G.num (by rw [G.p9 e3];omega)
   have hpl:=O5 x.2.1 G.l.se (by omega)
   generalize tX x.2.1=y at hR hpl
   refine Fn.aT dA yA (by simp) ?_
   unfold uS SC.mk' ak.enc Task.enc
   simp only [go_sem]
   have aI:=dw t 9 9
   have aU:=ji x.2.1 y.2.1 k hrl hel
   have hJ:=ah hg (ah p0 (ah e1' (ah e2 e3)))
   exact aZ
  ·simp only [Bool.not_eq_true] at e3
   simp only [e3,Bool.not_false,if_true] at hR
   refine Fn.aT dA yA (by simp) ?_
   unfold uS SC.mk' ak.enc Task.enc
   simp only [go_sem]
   have aI:=dw t 9 9
   have hJ:=ah hg (ah p0 (ah e1' (ah e2 e3)))
   exact aZ
end Go.Eng
