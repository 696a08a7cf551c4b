/-
  Part of a proof: lemmas and definitions of this work.
  No condition.
-/
import Derived.Test.YthhjbngoibmpgaaGreatA08
import Derived.Test.YthhjbngoibmpgaaGreatA35
set_option linter.all false
set_option maxRecDepth 100000
set_option maxHeartbeats 8000000
namespace Go.Eng
open Go Go.Proofs
attribute [local go_sem] aj.enc av.enc Task.enc Ev.enc bD.enc bf.enc cB.enc Dead.enc Dir.enc ak.enc Walk.enc aV.enc aJ.enc bL.enc Setup.enc aS dY dZ List.length_map
theorem adu (t:Task):Fn Tryz.prog 387 [.agg t.enc] [] (.sl 1 (encI (iL t))) [] []:=by
 generalize hR:iL t=R
 unfold iL at hR
 refine Fn.aO ajk (by simp) ?_
 unfold U6 SC.mk' Task.enc
 simp only [go_sem]
 have hJ:=trivial
 repeat' first
  |(first|refine sC ?_|refine sD ?_);simp only [hJ,go_sem]
  |(first|refine bC (fun hq=> ?_) (fun hq=> ?_)|refine dR (fun hq=> ?_) (fun hq=> ?_)|refine dD (fun hq=> ?_) (fun hq=> ?_))<;>simp only [hq,hJ,go_sem]
  |refine sM ?_;simp only [ay,rv,au,get,hJ,go_sem]
  |refine bn ?_
  |fail
 all_goals clear hJ
 all_goals (simp_all [-Int.not_lt,-Int.not_le];subst hR;rfl)
theorem aot (t:Task) (h2:t.sec.aN.length=2):Fn Tryz.prog 384 [.agg t.enc] [] (.aF [.agg (jW t).enc,.agg (lI t).enc]) [] []:=by
 have ho:=adu t
 have n0:=kI (show 0<t.sec.aN.length by omega)
 have n1:=kI (show 1<t.sec.aN.length by omega)
 generalize hR:jW t=R
 generalize hQ:lI t=Q
 unfold jW at hR
 unfold lI at hQ
 unfold iL at ho
 by_cases c:t.inv.bq<t.inv.to
 ·simp only [c,if_true] at hR hQ ho
  refine Fn.aT bR aa2 (by simp) ?_
  unfold MQ SC.mk' Task.enc
  simp only [go_sem]
  have hJ:=ah h2 (ah n0 (ah n1 (ah @Bt (ah @Bu @Bv))))
  exact aZ
 ·simp only [c,if_false] at hR hQ ho
  refine Fn.aT bR aa2 (by simp) ?_
  unfold MQ SC.mk' Task.enc
  simp only [go_sem]
  have hJ:=ah h2 (ah n0 (ah n1 (ah @Bt (ah @Bu @Bv))))
  exact aZ
theorem aou (t:Task) (x y:ak):Fn Tryz.prog 386 [.agg t.enc,.agg x.enc,.agg y.enc] [] (.sl 8 ((placed t x y).map ak.enc)) [] []:=by
 generalize hR:placed t x y=R
 unfold placed at hR
 refine Fn.aO ajj (by simp) ?_
 unfold U5 SC.mk' Task.enc ak.enc
 simp only [go_sem]
 have hJ:=trivial
 repeat' first
  |(first|refine sC ?_|refine sD ?_|refine sZ ?_|refine sY ?_|refine sF ?_);simp only [hJ,go_sem]
  |(first|refine bC (fun hq=> ?_) (fun hq=> ?_)|refine dR (fun hq=> ?_) (fun hq=> ?_)|refine dD (fun hq=> ?_) (fun hq=> ?_))<;>simp only [hq,hJ,go_sem]
  |refine sM ?_;simp only [ay,rv,au,get,hJ,go_sem]
  |refine bn ?_
  |fail
 all_goals clear hJ
 all_goals (simp_all [-Int.not_lt,-Int.not_le];subst hR;simp [ak.enc,rv,au,get])
theorem NV (t:Task) (hl:t.sec.aW) (h2:t.sec.aN.length=2):Fn Tryz.prog 322 [.agg t.enc] [] (DW (rf t)) [] []:=by
 generalize hR:rf t=R
 unfold rf at hR
 simp only at hR
 have hs:=aot t h2
 have s1:=Xl hl
 have s2:=Xm hl
 have ho:=adu t
 have hp:=aou t
 have hlt:(jW t).lt 12:=kY hl _
 generalize iL t=od at hR ho
 generalize jW t=v at hR hs s1 hlt
 generalize lI t=w at hR hs s2
 by_cases c1:(!v.live||(w.live||decide (v.high<=v.low)))=true
 ·simp only [if_pos c1] at hR
  refine Fn.aT bR aaO (by simp) ?_
  unfold MN SC.mk' Task.enc
  simp only [go_sem]
  have aK:=fF t.sec
  have hJ:=c1
  exact aZ
 simp only [if_neg c1] at hR
 simp only [Bool.not_eq_true] at c1
 simp only [Bool.or_eq_false_iff,Bool.not_eq_eq_eq_not,Bool.not_false] at c1
 obtain ⟨c1,c2,c3⟩:=c1
 generalize hm:(IntKind.i64.wrap (v.low+v.high)).tdiv 2=m at hR
 have hmw:IntKind.i64.wrap m=m:=by rw [<-hm];exact wq _
 have hd:=ama v m s1
 have hsm:=(ac4 m hlt).2.sm (by omega)
 generalize v.divide m=x at hR hd hsm
 have hp:=hp x.1 x.2.1
 generalize placed t x.1 x.2.1=pl at hR hp
 have hal:=xh x.2.1 hsm
 generalize x.2.1.all=al at hR hal
 refine Fn.aT bR aaO (by simp) ?_
 unfold MN SC.mk' Task.enc
 simp only [go_sem]
 have aK:=fF t.sec
 have aU:=nu x.2.1 hsm
 have hJ:=ah c1 (ah c2 (ah c3 (ah hm hmw)))
 exact aZ
end Go.Eng
namespace Go.Eng
open Go Go.Proofs
attribute [local go_sem] aj.enc av.enc Task.enc Ev.enc bD.enc bf.enc cB.enc Dead.enc Dir.enc ak.enc Walk.enc aV.enc aJ.enc bL.enc Setup.enc aS dY dZ List.length_map
theorem aov (a:aj) (t:Task) (k:Int) {n:Nat} (ha:a.wf n) (hal:a.aW) (ht:t.wf n) (hl:t.aW) (hk:t.inv.kind=10) (hd:t.dn=false):Fn Tryz.prog 232 [.agg a.enc,.agg t.enc,I k] [] (dA (y8 a t k)) [] []:=by
 generalize hR:y8 a t k=R
 unfold y8 jB at hR
 simp only at hR
 have hg:t.guard 10 10=0:=by simp [Task.guard,hd,hk]
 simp only [hg,ne_eq,not_true_eq_false,if_false,pairT] at hR
 by_cases p0:(t.pc==0)=true
 ·simp only [if_pos p0] at hR
  have hse:=vv t (jc t.inv.bq t.inv.to) 1 (by simp [jc])
  have hs1:(t.eU (jc t.inv.bq t.inv.to) 1).sec.wf n/\cu n (t.eU (jc t.inv.bq t.inv.to) 1).sec.lock.cells=2:=⟨(zf ht (by omega)).1,by have:=(zf ht (by omega)).2.1;simp only [pairT] at this;rcases this with h|h<;>first|exact h|omega⟩
  have hl1:=Task.vk hl (jc t.inv.bq t.inv.to) 1
  generalize t.eU (jc t.inv.bq t.inv.to) 1=t1 at hR hse hs1 hl1
  obtain ⟨hs1,hs2⟩:=hs1
  have hgo:=nC a t1 k ha hal hs1 hl1.se
  have G:=go_ok (k:=k) ha hal hs1 hl1
  generalize t1.go a k=x at hR hgo G
  by_cases e1:x.2.2.2.2≠0
  ·rw [if_pos e1] at hR
   have bV:(x.2.2.2.2 !=0)=true:=by simpa using e1
   refine Fn.aT bY wB (by simp) ?_
   unfold sJ SC.mk' aj.enc Task.enc
   simp only [go_sem]
   have aK:=bZ t 10 10
   have aU:=qx t.inv.bq t.inv.to
   have bK:=jY x.2.2.2.2
   have hJ:=ah hg (ah p0 bV)
   exact aZ
  rw [if_neg e1] at hR
  have bV:(x.2.2.2.2 !=0)=false:=by simpa using e1
  have G:=G (Decidable.not_not.1 e1)
  have hrl:=kJ G.l
  have hel:=kK G.l
  have hcl:=G.cl
  by_cases e2:x.2.2.1=true
  ·rw [if_pos e2] at hR
   have hsh:=G.num (by rw [G.p4 e2];omega)
   have hpl:=NV x.2.1 G.l.se (by omega)
   have hpo:=(Xc G.l).oo
   generalize rf x.2.1=y at hR hpl hpo
   refine Fn.aT bY wB (by simp) ?_
   unfold sJ SC.mk' aj.enc Task.enc
   simp only [go_sem]
   have aK:=bZ t 10 10
   have aU:=qx t.inv.bq t.inv.to
   have bK:=fq x.2.1 y.1 hpo hcl
   have hJ:=ah hg (ah p0 (ah bV e2))
   exact aZ
  rw [if_neg e2] at hR
  simp only [Bool.not_eq_true] at e2
  by_cases e3:x.2.2.2.1=true
  ·simp only [e3,Bool.not_true,Bool.false_eq_true,if_false] at hR
   have hsh:=G.num (by rw [G.p9 e3];omega)
   have hpl:=NV x.2.1 G.l.se (by omega)
   generalize rf x.2.1=y at hR hpl
   refine Fn.aT bY wB (by simp) ?_
   unfold sJ SC.mk' aj.enc Task.enc
   simp only [go_sem]
   have aK:=bZ t 10 10
   have aU:=qx t.inv.bq t.inv.to
   have bK:=iH x.2.1 y.2.1 k hrl hel
   have hJ:=ah hg (ah p0 (ah bV (ah e2 e3)))
   exact aZ
  ·simp only [Bool.not_eq_true] at e3
   simp only [e3,Bool.not_false,if_true] at hR
   refine Fn.aT bY wB (by simp) ?_
   unfold sJ SC.mk' aj.enc Task.enc
   simp only [go_sem]
   have aK:=bZ t 10 10
   have aU:=qx t.inv.bq t.inv.to
   have hJ:=ah hg (ah p0 (ah bV (ah e2 e3)))
   exact aZ
 ·simp only [if_neg p0] at hR
  simp only [Bool.not_eq_true] at p0
  have hs1:t.sec.wf n/\cu n t.sec.lock.cells=2:=by
   simp only [beq_eq_false_iff_ne] at p0
   rcases ht.k9 (by omega) (by omega) with h|h
   ·exact absurd h p0
   ·exact ⟨h.1,h.2.1⟩
  have hl1:=hl
  obtain ⟨hs1,hs2⟩:=hs1
  have hgo:=nC a t k ha hal hs1 hl1.se
  have G:=go_ok (k:=k) ha hal hs1 hl1
  generalize t.go a k=x at hR hgo G
  by_cases e1:x.2.2.2.2≠0
  ·rw [if_pos e1] at hR
   have bV:(x.2.2.2.2 !=0)=true:=by simpa using e1
   refine Fn.aT bY wB (by simp) ?_
   unfold sJ SC.mk' aj.enc Task.enc
   simp only [go_sem]
   have aK:=bZ t 10 10
   have aU:=jY x.2.2.2.2
   have hJ:=ah hg (ah p0 bV)
   exact aZ
  rw [if_neg e1] at hR
  have bV:(x.2.2.2.2 !=0)=false:=by simpa using e1
  have G:=G (Decidable.not_not.1 e1)
  have hrl:=kJ G.l
  have hel:=kK G.l
  have hcl:=G.cl
  by_cases e2:x.2.2.1=true
  ·rw [if_pos e2] at hR
   have hsh:=G.num (by rw [G.p4 e2];omega)
   have hpl:=NV x.2.1 G.l.se (by omega)
   have hpo:=(Xc G.l).oo
   generalize rf x.2.1=y at hR hpl hpo
   refine Fn.aT bY wB (by simp) ?_
   unfold sJ SC.mk' aj.enc Task.enc
   simp only [go_sem]
   have aK:=bZ t 10 10
   have aU:=fq x.2.1 y.1 hpo hcl
   have hJ:=ah hg (ah p0 (ah bV e2))
   exact aZ
  rw [if_neg e2] at hR
  simp only [Bool.not_eq_true] at e2
  by_cases e3:x.2.2.2.1=true
  ·simp only [e3,Bool.not_true,Bool.false_eq_true,if_false] at hR
   have hsh:=G.num (by rw [G.p9 e3];omega)
   have hpl:=NV x.2.1 G.l.se (by omega)
   generalize rf x.2.1=y at hR hpl
   refine Fn.aT bY wB (by simp) ?_
   unfold sJ SC.mk' aj.enc Task.enc
   simp only [go_sem]
   have aK:=bZ t 10 10
   have aU:=iH x.2.1 y.2.1 k hrl hel
   have hJ:=ah hg (ah p0 (ah bV (ah e2 e3)))
   exact aZ
  ·simp only [Bool.not_eq_true] at e3
   simp only [e3,Bool.not_false,if_true] at hR
   refine Fn.aT bY wB (by simp) ?_
   unfold sJ SC.mk' aj.enc Task.enc
   simp only [go_sem]
   have aK:=bZ t 10 10
   have hJ:=ah hg (ah p0 (ah bV (ah e2 e3)))
   exact aZ
end Go.Eng
