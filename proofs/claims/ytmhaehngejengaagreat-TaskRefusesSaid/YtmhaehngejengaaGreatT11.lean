/-
  Part of a proof: lemmas and definitions of this work.
  No condition.
-/
import Derived.Test.YtmhaehngejengaaGreatA12
import Derived.Test.YtmhaehngejengaaGreatT04
set_option linter.all false
set_option maxRecDepth 100000
set_option maxHeartbeats 8000000
namespace Go.Eng
open Go Go.Proofs
attribute [local go_sem] ak.enc ax.enc Task.enc Ev.enc bG.enc bf.enc dG.enc Dead.enc Dir.enc aj.enc Walk.enc aV.enc aH.enc bT.enc Setup.enc aS fD fE List.length_map
theorem adq (t:Task):Fn Tryz.prog 439 [.agg t.enc] [] (.sl 1 (encI (jm t))) [] []:=by
 generalize hR:jm t=R
 unfold jm at hR
 refine Fn.aN ajO (by simp) ?_
 unfold UE SC.mk' Task.enc
 simp only [go_sem]
 have hJ:=trivial
 repeat' first
  |(first|refine sC ?_|refine sD ?_);simp only [hJ,go_sem]
  |(first|refine bF (fun hq=> ?_) (fun hq=> ?_)|refine dY (fun hq=> ?_) (fun hq=> ?_)|refine dL (fun hq=> ?_) (fun hq=> ?_))<;>simp only [hq,hJ,go_sem]
  |refine sM ?_;simp only [ay,rv,au,get,hJ,go_sem]
  |refine bn ?_
  |fail
 all_goals clear hJ
 all_goals (simp_all [-Int.not_lt,-Int.not_le];subst hR;rfl)
theorem apS (t:Task) (h2:t.sec.shards.length=2):Fn Tryz.prog 436 [.agg t.enc] [] (.aF [.agg (kP t).enc,.agg (mO t).enc]) [] []:=by
 have ho:=adq t
 have n0:=lI (show 0<t.sec.shards.length by omega)
 have n1:=lI (show 1<t.sec.shards.length by omega)
 generalize hR:kP t=R
 generalize hQ:mO t=Q
 unfold kP at hR
 unfold mO at hQ
 unfold jm at ho
 by_cases c:t.inv.bC<t.inv.to
 ·simp only [c,if_true] at hR hQ ho
  refine Fn.aT bY aaY (by simp) ?_
  unfold NP SC.mk' Task.enc
  simp only [go_sem]
  have hJ:=ah h2 (ah n0 (ah n1 (ah @DJ (ah @DK @DL))))
  exact aZ
 ·simp only [c,if_false] at hR hQ ho
  refine Fn.aT bY aaY (by simp) ?_
  unfold NP SC.mk' Task.enc
  simp only [go_sem]
  have hJ:=ah h2 (ah n0 (ah n1 (ah @DJ (ah @DK @DL))))
  exact aZ
theorem apT (t:Task) (x y:aj):Fn Tryz.prog 438 [.agg t.enc,.agg x.enc,.agg y.enc] [] (.sl 8 ((placed t x y).map aj.enc)) [] []:=by
 generalize hR:placed t x y=R
 unfold placed at hR
 refine Fn.aN ajN (by simp) ?_
 unfold UD SC.mk' Task.enc aj.enc
 simp only [go_sem]
 have hJ:=trivial
 repeat' first
  |(first|refine sC ?_|refine sD ?_|refine sZ ?_|refine sY ?_|refine sF ?_);simp only [hJ,go_sem]
  |(first|refine bF (fun hq=> ?_) (fun hq=> ?_)|refine dY (fun hq=> ?_) (fun hq=> ?_)|refine dL (fun hq=> ?_) (fun hq=> ?_))<;>simp only [hq,hJ,go_sem]
  |refine sM ?_;simp only [ay,rv,au,get,hJ,go_sem]
  |refine bn ?_
  |fail
 all_goals clear hJ
 all_goals (simp_all [-Int.not_lt,-Int.not_le];subst hR;simp [aj.enc,rv,au,get])
theorem O6 (t:Task) (hl:t.sec.aW) (h2:t.sec.shards.length=2):Fn Tryz.prog 370 [.agg t.enc] [] (F8 (tY t)) [] []:=by
 generalize hR:tY t=R
 unfold tY at hR
 simp only at hR
 have hs:=apS t h2
 have s1:=X7 hl
 have s2:=X8 hl
 have ho:=adq t
 have hp:=apT t
 have hlt:(kP t).lt 12:=mr hl _
 generalize jm t=od at hR ho
 generalize kP t=v at hR hs s1 hlt
 generalize mO t=w at hR hs s2
 by_cases c1:(!v.live||(w.live||decide (v.high≤v.low)))=true
 ·simp only [if_pos c1] at hR
  refine Fn.aT bY aaT (by simp) ?_
  unfold NH SC.mk' Task.enc
  simp only [go_sem]
  have aI:=gQ t.sec
  have hJ:=c1
  exact aZ
 simp only [if_neg c1] at hR
 simp only [Bool.not_eq_true] at c1
 simp only [Bool.or_eq_false_iff,Bool.not_eq_eq_eq_not,Bool.not_false] at c1
 obtain ⟨c1,c2,c3⟩:=c1
 generalize hm:(IntKind.i64.wrap (v.low+v.high)).tdiv 2=m at hR
 have hmw:IntKind.i64.wrap m=m:=by rw [←hm];exact wq _
 have hd:=anE v m s1
 have hsm:=(ac0 m hlt).2.sm (by omega)
 generalize v.divide m=x at hR hd hsm
 have hp:=hp x.1 x.2.1
 generalize placed t x.1 x.2.1=pl at hR hp
 have hal:=zf x.2.1 hsm
 generalize x.2.1.all=al at hR hal
 refine Fn.aT bY aaT (by simp) ?_
 unfold NH SC.mk' Task.enc
 simp only [go_sem]
 have aI:=gQ t.sec
 have aU:=oQ x.2.1 hsm
 have hJ:=ah c1 (ah c2 (ah c3 (ah hm hmw)))
 exact aZ
end Go.Eng
namespace Go.Eng
open Go Go.Proofs
attribute [local go_sem] ak.enc ax.enc Task.enc Ev.enc bG.enc bf.enc dG.enc Dead.enc Dir.enc aj.enc Walk.enc aV.enc aH.enc bT.enc Setup.enc aS fD fE List.length_map
theorem apU (a:ak) (t:Task) (k:Int) {n:Nat} (ha:a.wf n) (hal:a.aW) (ht:t.wf n) (hl:t.aW) (hk:t.inv.kind=10) (hd:t.dn=false):Fn Tryz.prog 285 [.agg a.enc,.agg t.enc,I k] [] (dW (AZ a t k)) [] []:=by
 generalize hR:AZ a t k=R
 unfold AZ jX at hR
 simp only at hR
 have hg:t.guard 10 10=0:=by simp [Task.guard,hd,hk]
 simp only [hg,ne_eq,not_true_eq_false,if_false,pairT] at hR
 by_cases p0:(t.pc==0)=true
 ·simp only [if_pos p0] at hR
  have hse:=xB t (jJ t.inv.bC t.inv.to) 1 (by simp [jJ])
  have hs1:(t.fJ (jJ t.inv.bC t.inv.to) 1).sec.wf n∧dB n (t.fJ (jJ t.inv.bC t.inv.to) 1).sec.lock.cells=2:=⟨(Ba ht (by omega)).1,by have:=(Ba ht (by omega)).2.1;simp only [pairT] at this;rcases this with h|h<;>first|exact h|omega⟩
  have hl1:=Task.xw hl (jJ t.inv.bC t.inv.to) 1
  generalize t.fJ (jJ t.inv.bC t.inv.to) 1=t1 at hR hse hs1 hl1
  obtain ⟨hs1,hs2⟩:=hs1
  have hgo:=oW a t1 k ha hal hs1 hl1.se
  have G:=go_ok (k:=k) ha hal hs1 hl1
  generalize t1.go a k=x at hR hgo G
  by_cases e1:x.2.2.2.2≠0
  ·rw [if_pos e1] at hR
   have e1':(x.2.2.2.2 !=0)=true:=by simpa using e1
   refine Fn.aT dA yB (by simp) ?_
   unfold uU SC.mk' ak.enc Task.enc
   simp only [go_sem]
   have aI:=dw t 10 10
   have aU:=rX t.inv.bC t.inv.to
   have bK:=kR x.2.2.2.2
   have hJ:=ah hg (ah p0 e1')
   exact aZ
  rw [if_neg e1] at hR
  have e1':(x.2.2.2.2 !=0)=false:=by simpa using e1
  have G:=G (Decidable.not_not.1 e1)
  have hrl:=lJ G.l
  have hel:=lK G.l
  have hcl:=G.cl
  by_cases e2:x.2.2.1=true
  ·rw [if_pos e2] at hR
   have hsh:=G.num (by rw [G.p4 e2];omega)
   have hpl:=O6 x.2.1 G.l.se (by omega)
   have hpo:=(XV G.l).oo
   generalize tY x.2.1=y at hR hpl hpo
   refine Fn.aT dA yB (by simp) ?_
   unfold uU SC.mk' ak.enc Task.enc
   simp only [go_sem]
   have aI:=dw t 10 10
   have aU:=rX t.inv.bC t.inv.to
   have bK:=fV x.2.1 y.1 hpo hcl
   have hJ:=ah hg (ah p0 (ah e1' e2))
   exact aZ
  rw [if_neg e2] at hR
  simp only [Bool.not_eq_true] at e2
  by_cases e3:x.2.2.2.1=true
  ·simp only [e3,Bool.not_true,Bool.false_eq_true,if_false] at hR
   have hsh:=G.num (by rw [G.p9 e3];omega)
   have hpl:=O6 x.2.1 G.l.se (by omega)
   generalize tY x.2.1=y at hR hpl
   refine Fn.aT dA yB (by simp) ?_
   unfold uU SC.mk' ak.enc Task.enc
   simp only [go_sem]
   have aI:=dw t 10 10
   have aU:=rX t.inv.bC t.inv.to
   have bK:=ji x.2.1 y.2.1 k hrl hel
   have hJ:=ah hg (ah p0 (ah e1' (ah e2 e3)))
   exact aZ
  ·simp only [Bool.not_eq_true] at e3
   simp only [e3,Bool.not_false,if_true] at hR
   refine Fn.aT dA yB (by simp) ?_
   unfold uU SC.mk' ak.enc Task.enc
   simp only [go_sem]
   have aI:=dw t 10 10
   have aU:=rX t.inv.bC t.inv.to
   have hJ:=ah hg (ah p0 (ah e1' (ah e2 e3)))
   exact aZ
 ·simp only [if_neg p0] at hR
  simp only [Bool.not_eq_true] at p0
  have hs1:t.sec.wf n∧dB n t.sec.lock.cells=2:=by
   simp only [beq_eq_false_iff_ne] at p0
   rcases ht.k9 (by omega) (by omega) with h|h
   ·exact absurd h p0
   ·exact ⟨h.1,h.2.1⟩
  have hl1:=hl
  obtain ⟨hs1,hs2⟩:=hs1
  have hgo:=oW a t k ha hal hs1 hl1.se
  have G:=go_ok (k:=k) ha hal hs1 hl1
  generalize t.go a k=x at hR hgo G
  by_cases e1:x.2.2.2.2≠0
  ·rw [if_pos e1] at hR
   have e1':(x.2.2.2.2 !=0)=true:=by simpa using e1
   refine Fn.aT dA yB (by simp) ?_
   unfold uU SC.mk' ak.enc Task.enc
   simp only [go_sem]
   have aI:=dw t 10 10
   have aU:=kR x.2.2.2.2
   have hJ:=ah hg (ah p0 e1')
   exact aZ
  rw [if_neg e1] at hR
  have e1':(x.2.2.2.2 !=0)=false:=by simpa using e1
  have G:=G (Decidable.not_not.1 e1)
  have hrl:=lJ G.l
  have hel:=lK G.l
  have hcl:=G.cl
  by_cases e2:x.2.2.1=true
  ·rw [if_pos e2] at hR
   have hsh:=G.num (by rw [G.p4 e2];omega)
   have hpl:=O6 x.2.1 G.l.se (by omega)
   have hpo:=(XV G.l).oo
   generalize tY x.2.1=y at hR hpl hpo
   refine Fn.aT dA yB (by simp) ?_
   unfold uU SC.mk' ak.enc Task.enc
   simp only [go_sem]
   have aI:=dw t 10 10
   have aU:=fV x.2.1 y.1 hpo hcl
   have hJ:=ah hg (ah p0 (ah e1' e2))
   exact aZ
  rw [if_neg e2] at hR
  simp only [Bool.not_eq_true] at e2
  by_cases e3:x.2.2.2.1=true
  ·simp only [e3,Bool.not_true,Bool.false_eq_true,if_false] at hR
   have hsh:=G.num (by rw [G.p9 e3];omega)
   have hpl:=O6 x.2.1 G.l.se (by omega)
   generalize tY x.2.1=y at hR hpl
   refine Fn.aT dA yB (by simp) ?_
   unfold uU SC.mk' ak.enc Task.enc
   simp only [go_sem]
   have aI:=dw t 10 10
   have aU:=ji x.2.1 y.2.1 k hrl hel
   have hJ:=ah hg (ah p0 (ah e1' (ah e2 e3)))
   exact aZ
  ·simp only [Bool.not_eq_true] at e3
   simp only [e3,Bool.not_false,if_true] at hR
   refine Fn.aT dA yB (by simp) ?_
   unfold uU SC.mk' ak.enc Task.enc
   simp only [go_sem]
   have aI:=dw t 10 10
   have hJ:=ah hg (ah p0 (ah e1' (ah e2 e3)))
   exact aZ
end Go.Eng
