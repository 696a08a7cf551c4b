/-
  Part of a proof: lemmas and definitions of this work.
  No condition.
-/
import Derived.Test.YtmhaehngejengaaGreatA12
import Derived.Test.YtmhaehngejengaaGreatA32
import Derived.Test.YtmhaehngejengaaGreatT04
set_option linter.all false
set_option maxRecDepth 100000
set_option maxHeartbeats 8000000
namespace Go.Eng
open Go Go.Proofs
attribute [local go_sem] ak.enc ax.enc Task.enc Ev.enc bG.enc bf.enc dG.enc Dead.enc Dir.enc aj.enc Walk.enc aV.enc aH.enc bT.enc Setup.enc aS fD fE List.length_map
theorem apY {n:Nat} {t:Task} (ht:t.wf n) (hk:t.inv.kind=14):(t.fJ [t.inv.bC,t.setup.slots] 1).sec.wf n∧dB n (t.fJ [t.inv.bC,t.setup.slots] 1).sec.lock.cells=1:=by
 obtain ⟨c1,c2⟩:=ab3 ht hk
 have hl:=Ov (n:=n) (c:=t.inv.bC) (d:=t.setup.slots) ht.su.n6.2 c1 (by rw [ht.su.sl];exact c2) (by rw [ht.su.sl];omega) t.setup.limit ht.su.lim
 refine ⟨hl.1,?_⟩
 have h:=hl.2.1;rw [if_neg (by rw [ht.su.sl];omega)] at h;exact h
theorem O9 (t:Task) (hl:t.sec.aW) (h1:t.sec.shards.length=1):Fn Tryz.prog 373 [.agg t.enc] [] (F8 (qC t)) [] []:=by
 generalize hR:qC t=R
 unfold qC at hR
 simp only at hR
 have hn:=lI (show 0<t.sec.shards.length by omega)
 have hsm:=oV hl 0
 have hdl:=hl.de
 have hlt:=mr hl 0
 generalize eH t.sec.shards 0=s at hR hn hsm hlt
 have hr:=apo t.sec.dead (by omega)
 generalize t.sec.dead.room=ro at hR hr
 have hb:=anA s ro t.sec.aG.epoch t.setup.limit hsm
 generalize hx:s.tK ro t.sec.aG.epoch t.setup.limit=x at hR hb
 have hxl:x.2.1.length≤1000:=by
  have h:=(acZ ro t.sec.aG.epoch t.setup.limit hlt).2
  rw [hx] at h
  omega
 have hpu:=apr t.sec.dead x.2.1 (by omega) (by omega)
 by_cases c1:s.live=true
 ·simp only [c1,Bool.not_true,Bool.false_eq_true,if_false] at hR
  by_cases c2:x.2.1.length=0
  ·simp only [if_pos c2] at hR
   refine Fn.aT bY TT (by simp) ?_
   unfold Ff SC.mk' Task.enc
   simp only [go_sem]
   have aI:=gQ t.sec
   have hJ:=ah hn (ah c1 c2)
   exact aZ
  ·simp only [if_neg c2] at hR
   have c2':((x.2.1.length:Int)==0)=false:=by simpa using c2
   generalize t.sec.dead.put x.2.1=p at hR hpu
   refine Fn.aT bY TT (by simp) ?_
   unfold Ff SC.mk' Task.enc
   simp only [go_sem]
   have aI:=gQ t.sec
   have hJ:=ah hn (ah c1 c2')
   exact aZ
 ·simp only [Bool.not_eq_true] at c1
  simp only [c1,Bool.not_false,if_true] at hR
  refine Fn.aT bY TT (by simp) ?_
  unfold Ff SC.mk' Task.enc
  simp only [go_sem]
  have aI:=gQ t.sec
  have hJ:=ah hn c1
  exact aZ
end Go.Eng
namespace Go.Eng
open Go Go.Proofs
attribute [local go_sem] ak.enc ax.enc Task.enc Ev.enc bG.enc bf.enc dG.enc Dead.enc Dir.enc aj.enc Walk.enc aV.enc aH.enc bT.enc Setup.enc aS fD fE List.length_map
theorem apZ (a:ak) (t:Task) (k:Int) {n:Nat} (ha:a.wf n) (hal:a.aW) (ht:t.wf n) (hl:t.aW) (hk:t.inv.kind=14) (hd:t.dn=false):Fn Tryz.prog 288 [.agg a.enc,.agg t.enc,I k] [] (dW (A8 a t k)) [] []:=by
 generalize hR:A8 a t k=R
 unfold A8 jX at hR
 simp only at hR
 have hg:t.guard 14 14=0:=by simp [Task.guard,hd,hk]
 simp only [hg,ne_eq,not_true_eq_false,if_false] at hR
 by_cases p0:(t.pc==0)=true
 ·simp only [if_pos p0] at hR
  have hse:=xB t [t.inv.bC,t.setup.slots] 1 (by simp)
  have hs1:(t.fJ [t.inv.bC,t.setup.slots] 1).sec.wf n∧dB n (t.fJ [t.inv.bC,t.setup.slots] 1).sec.lock.cells=1:=apY ht hk
  have hl1:=Task.xw hl [t.inv.bC,t.setup.slots] 1
  generalize t.fJ [t.inv.bC,t.setup.slots] 1=t1 at hR hse hs1 hl1
  obtain ⟨hs1,hs2⟩:=hs1
  have hgo:=oW a t1 k ha hal hs1 hl1.se
  have G:=go_ok (k:=k) ha hal hs1 hl1
  generalize t1.go a k=x at hR hgo G
  by_cases e1:x.2.2.2.2≠0
  ·rw [if_pos e1] at hR
   have e1':(x.2.2.2.2 !=0)=true:=by simpa using e1
   refine Fn.aT dA yE (by simp) ?_
   unfold uY SC.mk' ak.enc Task.enc
   simp only [go_sem]
   have aI:=dw t 14 14
   have aU:=kR x.2.2.2.2
   have hJ:=ah hg (ah p0 e1')
   exact aZ
  rw [if_neg e1] at hR
  have e1':(x.2.2.2.2 !=0)=false:=by simpa using e1
  have G:=G (Decidable.not_not.1 e1)
  have hrl:=lJ G.l
  have hel:=lK G.l
  have hcl:=G.cl
  by_cases e2:x.2.2.1=true
  ·rw [if_pos e2] at hR
   have hsh:=G.num (by rw [G.p4 e2];omega)
   have hpl:=O9 x.2.1 G.l.se (by omega)
   have hpo:=(XZ G.l).oo
   generalize qC x.2.1=y at hR hpl hpo
   refine Fn.aT dA yE (by simp) ?_
   unfold uY SC.mk' ak.enc Task.enc
   simp only [go_sem]
   have aI:=dw t 14 14
   have aU:=fV x.2.1 y.1 hpo hcl
   have hJ:=ah hg (ah p0 (ah e1' e2))
   exact aZ
  rw [if_neg e2] at hR
  simp only [Bool.not_eq_true] at e2
  by_cases e3:x.2.2.2.1=true
  ·simp only [e3,Bool.not_true,Bool.false_eq_true,if_false] at hR
   have hsh:=G.num (by rw [G.p9 e3];omega)
   have hpl:=O9 x.2.1 G.l.se (by omega)
   generalize qC x.2.1=y at hR hpl
   refine Fn.aT dA yE (by simp) ?_
   unfold uY SC.mk' ak.enc Task.enc
   simp only [go_sem]
   have aI:=dw t 14 14
   have aU:=ji x.2.1 y.2.1 k hrl hel
   have hJ:=ah hg (ah p0 (ah e1' (ah e2 e3)))
   exact aZ
  ·simp only [Bool.not_eq_true] at e3
   simp only [e3,Bool.not_false,if_true] at hR
   refine Fn.aT dA yE (by simp) ?_
   unfold uY SC.mk' ak.enc Task.enc
   simp only [go_sem]
   have aI:=dw t 14 14
   have hJ:=ah hg (ah p0 (ah e1' (ah e2 e3)))
   exact aZ
 ·simp only [if_neg p0] at hR
  simp only [Bool.not_eq_true] at p0
  have hs1:t.sec.wf n∧dB n t.sec.lock.cells=1:=by
   simp only [beq_eq_false_iff_ne] at p0
   rcases ht.k14 hk with h|h
   ·exact absurd h p0
   ·exact ⟨h.1,h.2.1⟩
  have hl1:=hl
  obtain ⟨hs1,hs2⟩:=hs1
  have hgo:=oW a t k ha hal hs1 hl1.se
  have G:=go_ok (k:=k) ha hal hs1 hl1
  generalize t.go a k=x at hR hgo G
  by_cases e1:x.2.2.2.2≠0
  ·rw [if_pos e1] at hR
   have e1':(x.2.2.2.2 !=0)=true:=by simpa using e1
   refine Fn.aT dA yE (by simp) ?_
   unfold uY SC.mk' ak.enc Task.enc
   simp only [go_sem]
   have aI:=dw t 14 14
   have aU:=kR x.2.2.2.2
   have hJ:=ah hg (ah p0 e1')
   exact aZ
  rw [if_neg e1] at hR
  have e1':(x.2.2.2.2 !=0)=false:=by simpa using e1
  have G:=G (Decidable.not_not.1 e1)
  have hrl:=lJ G.l
  have hel:=lK G.l
  have hcl:=G.cl
  by_cases e2:x.2.2.1=true
  ·rw [if_pos e2] at hR
   have hsh:=G.num (by rw [G.p4 e2];omega)
   have hpl:=O9 x.2.1 G.l.se (by omega)
   have hpo:=(XZ G.l).oo
   generalize qC x.2.1=y at hR hpl hpo
   refine Fn.aT dA yE (by simp) ?_
   unfold uY SC.mk' ak.enc Task.enc
   simp only [go_sem]
   have aI:=dw t 14 14
   have aU:=fV x.2.1 y.1 hpo hcl
   have hJ:=ah hg (ah p0 (ah e1' e2))
   exact aZ
  rw [if_neg e2] at hR
  simp only [Bool.not_eq_true] at e2
  by_cases e3:x.2.2.2.1=true
  ·simp only [e3,Bool.not_true,Bool.false_eq_true,if_false] at hR
   have hsh:=G.num (by rw [G.p9 e3];omega)
   have hpl:=O9 x.2.1 G.l.se (by omega)
   generalize qC x.2.1=y at hR hpl
   refine Fn.aT dA yE (by simp) ?_
   unfold uY SC.mk' ak.enc Task.enc
   simp only [go_sem]
   have aI:=dw t 14 14
   have aU:=ji x.2.1 y.2.1 k hrl hel
   have hJ:=ah hg (ah p0 (ah e1' (ah e2 e3)))
   exact aZ
  ·simp only [Bool.not_eq_true] at e3
   simp only [e3,Bool.not_false,if_true] at hR
   refine Fn.aT dA yE (by simp) ?_
   unfold uY SC.mk' ak.enc Task.enc
   simp only [go_sem]
   have aI:=dw t 14 14
   have hJ:=ah hg (ah p0 (ah e1' (ah e2 e3)))
   exact aZ
end Go.Eng
