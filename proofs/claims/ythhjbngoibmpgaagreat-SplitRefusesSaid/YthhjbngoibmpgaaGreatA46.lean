/-
  Part of a proof: lemmas and definitions of this work.
  No condition.
-/
import Derived.Test.YthhjbngoibmpgaaGreatA08
import Derived.Test.YthhjbngoibmpgaaGreatA45
import Derived.Test.YthhjbngoibmpgaaGreatA30
import Derived.Test.YthhjbngoibmpgaaGreatA35
set_option linter.all false
set_option maxRecDepth 100000
set_option maxHeartbeats 8000000
namespace Go.Eng
open Go Go.Proofs
attribute [local go_sem] aj.enc av.enc Task.enc Ev.enc bD.enc bf.enc cB.enc Dead.enc Dir.enc ak.enc Walk.enc aV.enc aJ.enc bL.enc Setup.enc aS dY dZ List.length_map
theorem adx (a:aj) (t:Task) (k:Int) {n:Nat} (ha:a.wf n) (hal:a.aW) (ht:t.wf n) (hl:t.aW) (hk:t.inv.kind=12\/t.inv.kind=13) (hd:t.dn=false):Fn Tryz.prog 234 [.agg a.enc,.agg t.enc,I k] [] (dA (wY a t k)) [] []:=by
 generalize hR:wY a t k=R
 unfold wY jB at hR
 simp only at hR
 have hg:t.guard 12 13=0:=by simp [Task.guard,hd,-Int.not_lt,-Int.not_le];omega
 simp only [hg,ne_eq,not_true_eq_false,if_false] at hR
 by_cases p0:(t.pc==0)=true
 ·simp only [if_pos p0] at hR
  have hse:=vv t [t.inv.bq] 1 (by simp)
  have hs1:(t.eU [t.inv.bq] 1).sec.wf n/\True:=⟨(ab2 ht.su.n6.2 (V9 ht hk).1 (V9 ht hk).2 t.setup.limit ht.su.lim).1,trivial⟩
  have hl1:=Task.vk hl [t.inv.bq] 1
  generalize t.eU [t.inv.bq] 1=t1 at hR hse hs1 hl1
  obtain ⟨hs1,hs2⟩:=hs1
  have hgo:=nC a t1 k ha hal hs1 hl1.se
  have G:=go_ok (k:=k) ha hal hs1 hl1
  generalize t1.go a k=x at hR hgo G
  by_cases e1:x.2.2.2.2≠0
  ·rw [if_pos e1] at hR
   have bV:(x.2.2.2.2 !=0)=true:=by simpa using e1
   refine Fn.aT bY wD (by simp) ?_
   unfold sN SC.mk' aj.enc Task.enc
   simp only [go_sem]
   have aK:=bZ t 12 13
   have aU:=jY x.2.2.2.2
   have hJ:=ah hg (ah p0 bV)
   exact aZ
  rw [if_neg e1] at hR
  have bV:(x.2.2.2.2 !=0)=false:=by simpa using e1
  have G:=G (Decidable.not_not.1 e1)
  have hrl:=kJ G.l
  have hel:=kK G.l
  have hcl:=G.cl
  by_cases e2:x.2.2.1=true
  ·rw [if_pos e2] at hR
   have hsh:=G.num (by rw [G.p4 e2];omega)
   have hpl:=NZ x.2.1 G.l.se
   have hpo:=(Xe G.l).oo
   generalize oP x.2.1=y at hR hpl hpo
   refine Fn.aT bY wD (by simp) ?_
   unfold sN SC.mk' aj.enc Task.enc
   simp only [go_sem]
   have aK:=bZ t 12 13
   have aU:=fq x.2.1 y.1 hpo hcl
   have hJ:=ah hg (ah p0 (ah bV e2))
   exact aZ
  rw [if_neg e2] at hR
  simp only [Bool.not_eq_true] at e2
  by_cases e3:x.2.2.2.1=true
  ·simp only [e3,Bool.not_true,Bool.false_eq_true,if_false] at hR
   have hsh:=G.num (by rw [G.p9 e3];omega)
   have hpl:=NZ x.2.1 G.l.se
   generalize oP x.2.1=y at hR hpl
   refine Fn.aT bY wD (by simp) ?_
   unfold sN SC.mk' aj.enc Task.enc
   simp only [go_sem]
   have aK:=bZ t 12 13
   have aU:=iH x.2.1 y.2.1 k hrl hel
   have hJ:=ah hg (ah p0 (ah bV (ah e2 e3)))
   exact aZ
  ·simp only [Bool.not_eq_true] at e3
   simp only [e3,Bool.not_false,if_true] at hR
   refine Fn.aT bY wD (by simp) ?_
   unfold sN SC.mk' aj.enc Task.enc
   simp only [go_sem]
   have aK:=bZ t 12 13
   have hJ:=ah hg (ah p0 (ah bV (ah e2 e3)))
   exact aZ
 ·simp only [if_neg p0] at hR
  simp only [Bool.not_eq_true] at p0
  have hs1:t.sec.wf n/\True:=by
   simp only [beq_eq_false_iff_ne] at p0
   rcases ht.k12 hk with h|h
   ·exact absurd h p0
   ·exact ⟨h.1,trivial⟩
  have hl1:=hl
  obtain ⟨hs1,hs2⟩:=hs1
  have hgo:=nC a t k ha hal hs1 hl1.se
  have G:=go_ok (k:=k) ha hal hs1 hl1
  generalize t.go a k=x at hR hgo G
  by_cases e1:x.2.2.2.2≠0
  ·rw [if_pos e1] at hR
   have bV:(x.2.2.2.2 !=0)=true:=by simpa using e1
   refine Fn.aT bY wD (by simp) ?_
   unfold sN SC.mk' aj.enc Task.enc
   simp only [go_sem]
   have aK:=bZ t 12 13
   have aU:=jY x.2.2.2.2
   have hJ:=ah hg (ah p0 bV)
   exact aZ
  rw [if_neg e1] at hR
  have bV:(x.2.2.2.2 !=0)=false:=by simpa using e1
  have G:=G (Decidable.not_not.1 e1)
  have hrl:=kJ G.l
  have hel:=kK G.l
  have hcl:=G.cl
  by_cases e2:x.2.2.1=true
  ·rw [if_pos e2] at hR
   have hsh:=G.num (by rw [G.p4 e2];omega)
   have hpl:=NZ x.2.1 G.l.se
   have hpo:=(Xe G.l).oo
   generalize oP x.2.1=y at hR hpl hpo
   refine Fn.aT bY wD (by simp) ?_
   unfold sN SC.mk' aj.enc Task.enc
   simp only [go_sem]
   have aK:=bZ t 12 13
   have aU:=fq x.2.1 y.1 hpo hcl
   have hJ:=ah hg (ah p0 (ah bV e2))
   exact aZ
  rw [if_neg e2] at hR
  simp only [Bool.not_eq_true] at e2
  by_cases e3:x.2.2.2.1=true
  ·simp only [e3,Bool.not_true,Bool.false_eq_true,if_false] at hR
   have hsh:=G.num (by rw [G.p9 e3];omega)
   have hpl:=NZ x.2.1 G.l.se
   generalize oP x.2.1=y at hR hpl
   refine Fn.aT bY wD (by simp) ?_
   unfold sN SC.mk' aj.enc Task.enc
   simp only [go_sem]
   have aK:=bZ t 12 13
   have aU:=iH x.2.1 y.2.1 k hrl hel
   have hJ:=ah hg (ah p0 (ah bV (ah e2 e3)))
   exact aZ
  ·simp only [Bool.not_eq_true] at e3
   simp only [e3,Bool.not_false,if_true] at hR
   refine Fn.aT bY wD (by simp) ?_
   unfold sN SC.mk' aj.enc Task.enc
   simp only [go_sem]
   have aK:=bZ t 12 13
   have hJ:=ah hg (ah p0 (ah bV (ah e2 e3)))
   exact aZ
end Go.Eng
namespace Go.Eng
open Go Go.Proofs
attribute [local go_sem] aj.enc av.enc Task.enc Ev.enc bD.enc bf.enc cB.enc Dead.enc Dir.enc ak.enc Walk.enc aV.enc aJ.enc bL.enc Setup.enc aS dY dZ List.length_map
theorem aoz {n:Nat} {t:Task} (ht:t.wf n) (hk:t.inv.kind=14):(t.eU [t.inv.bq,t.setup.slots] 1).sec.wf n/\cu n (t.eU [t.inv.bq,t.setup.slots] 1).sec.lock.cells=1:=by
 obtain ⟨c1,c2⟩:=ab6 ht hk
 have hl:=Nn (n:=n) (c:=t.inv.bq) (d:=t.setup.slots) ht.su.n6.2 c1 (by rw [ht.su.sl];exact c2) (by rw [ht.su.sl];omega) t.setup.limit ht.su.lim
 refine ⟨hl.1,?_⟩
 have h:=hl.2.1;rw [if_neg (by rw [ht.su.sl];omega)] at h;exact h
theorem N7 (t:Task) (hl:t.sec.aW) (h1:t.sec.aN.length=1):Fn Tryz.prog 325 [.agg t.enc] [] (DW (oQ t)) [] []:=by
 generalize hR:oQ t=R
 unfold oQ at hR
 simp only at hR
 have hn:=kI (show 0<t.sec.aN.length by omega)
 have hsm:=nA hl 0
 have hdl:=hl.de
 have hlt:=kY hl 0
 generalize dW t.sec.aN 0=s at hR hn hsm hlt
 have hr:=anZ t.sec.dead (by omega)
 generalize t.sec.dead.room=ro at hR hr
 have hb:=al6 s ro t.sec.aI.epoch t.setup.limit hsm
 generalize hx:s.qW ro t.sec.aI.epoch t.setup.limit=x at hR hb
 have hxl:x.2.1.length<=1000:=by
  have h:=(ac3 ro t.sec.aI.epoch t.setup.limit hlt).2
  rw [hx] at h
  omega
 have hpu:=an1 t.sec.dead x.2.1 (by omega) (by omega)
 by_cases c1:s.live=true
 ·simp only [c1,Bool.not_true,Bool.false_eq_true,if_false] at hR
  by_cases c2:x.2.1.length=0
  ·simp only [if_pos c2] at hR
   refine Fn.aT bR Un (by simp) ?_
   unfold Dc SC.mk' Task.enc
   simp only [go_sem]
   have aK:=fF t.sec
   have hJ:=ah hn (ah c1 c2)
   exact aZ
  ·simp only [if_neg c2] at hR
   have c2':((x.2.1.length:Int)==0)=false:=by simpa using c2
   generalize t.sec.dead.put x.2.1=p at hR hpu
   refine Fn.aT bR Un (by simp) ?_
   unfold Dc SC.mk' Task.enc
   simp only [go_sem]
   have aK:=fF t.sec
   have hJ:=ah hn (ah c1 c2')
   exact aZ
 ·simp only [Bool.not_eq_true] at c1
  simp only [c1,Bool.not_false,if_true] at hR
  refine Fn.aT bR Un (by simp) ?_
  unfold Dc SC.mk' Task.enc
  simp only [go_sem]
  have aK:=fF t.sec
  have hJ:=ah hn c1
  exact aZ
end Go.Eng
