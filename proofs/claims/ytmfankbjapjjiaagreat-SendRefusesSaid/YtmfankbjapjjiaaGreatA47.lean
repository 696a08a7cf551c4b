/-
  Part of a proof: lemmas and definitions of this work.
  No condition.
-/
import Derived.Test.YtmfankbjapjjiaaGreatA08
import Derived.Test.YtmfankbjapjjiaaGreatA46
import Derived.Test.YtmfankbjapjjiaaGreatA30
import Derived.Test.YtmfankbjapjjiaaGreatA35
import Derived.Test.YtmfankbjapjjiaaGreatA37
import Derived.Test.YtmfankbjapjjiaaGreatA38
import Derived.Test.YtmfankbjapjjiaaGreatA40
import Derived.Test.YtmfankbjapjjiaaGreatA42
import Derived.Test.YtmfankbjapjjiaaGreatA43
import Derived.Test.YtmfankbjapjjiaaGreatA44
set_option linter.all false
set_option maxRecDepth 100000
set_option maxHeartbeats 8000000
namespace Go.Eng
open Go Go.Proofs
attribute [local go_sem] aj.enc av.enc Task.enc Ev.enc bE.enc aW.enc cB.enc Dead.enc Dir.enc ak.enc Walk.enc aU.enc aI.enc bN.enc Setup.enc aS dX dY List.length_map
theorem aoY (a:aj) (t:Task) (k:Int) {n:Nat} (ha:a.wf n) (hal:a.bf) (ht:t.wf n) (hl:t.bf) (hk:t.inv.kind=14) (hd:t.dn=false):Fn Tryz.prog 221 [.agg a.enc,.agg t.enc,I k] [] (dw (yZ a t k)) [] []:=by
 generalize hR:yZ a t k=R
 unfold yZ jF at hR
 simp only at hR
 have hg:t.guard 14 14=0:=by simp [Task.guard,hd,hk]
 simp only [hg,ne_eq,not_true_eq_false,if_false] at hR
 by_cases p0:(t.pc==0)=true
 ·simp only [if_pos p0] at hR
  have hse:=vg t [t.inv.bA,t.setup.slots] 1 (by simp)
  have hs1:(t.eX [t.inv.bA,t.setup.slots] 1).sec.wf n/\cu n (t.eX [t.inv.bA,t.setup.slots] 1).sec.lock.cells=1:=aoW ht hk
  have hl1:=Task.u7 hl [t.inv.bA,t.setup.slots] 1
  generalize t.eX [t.inv.bA,t.setup.slots] 1=t1 at hR hse hs1 hl1
  obtain ⟨hs1,hs2⟩:=hs1
  have hgo:=nE a t1 k ha hal hs1 hl1.se
  have G:=go_ok (k:=k) ha hal hs1 hl1
  generalize t1.go a k=x at hR hgo G
  by_cases e1:x.2.2.2.2≠0
  ·rw [if_pos e1] at hR
   have bV:(x.2.2.2.2 !=0)=true:=by simpa using e1
   refine Fn.aT bY wF (by simp) ?_
   unfold sK SC.mk' aj.enc Task.enc
   simp only [go_sem]
   have aK:=bZ t 14 14
   have aV:=jY x.2.2.2.2
   have hJ:=ah hg (ah p0 bV)
   exact aZ
  rw [if_neg e1] at hR
  have bV:(x.2.2.2.2 !=0)=false:=by simpa using e1
  have G:=G (Decidable.not_not.1 e1)
  have hrl:=kK G.l
  have hel:=kL G.l
  have hcl:=G.cl
  by_cases e2:x.2.2.1=true
  ·rw [if_pos e2] at hR
   have hsh:=G.num (by rw [G.p4 e2];omega)
   have hpl:=N8 x.2.1 G.l.se (by omega)
   have hpo:=(Xj G.l).oo
   generalize oN x.2.1=y at hR hpl hpo
   refine Fn.aT bY wF (by simp) ?_
   unfold sK SC.mk' aj.enc Task.enc
   simp only [go_sem]
   have aK:=bZ t 14 14
   have aV:=fo x.2.1 y.1 hpo hcl
   have hJ:=ah hg (ah p0 (ah bV e2))
   exact aZ
  rw [if_neg e2] at hR
  simp only [Bool.not_eq_true] at e2
  by_cases e3:x.2.2.2.1=true
  ·simp only [e3,Bool.not_true,Bool.false_eq_true,if_false] at hR
   have hsh:=G.num (by rw [G.p9 e3];omega)
   have hpl:=N8 x.2.1 G.l.se (by omega)
   generalize oN x.2.1=y at hR hpl
   refine Fn.aT bY wF (by simp) ?_
   unfold sK SC.mk' aj.enc Task.enc
   simp only [go_sem]
   have aK:=bZ t 14 14
   have aV:=iI x.2.1 y.2.1 k hrl hel
   have hJ:=ah hg (ah p0 (ah bV (ah e2 e3)))
   exact aZ
  ·simp only [Bool.not_eq_true] at e3
   simp only [e3,Bool.not_false,if_true] at hR
   refine Fn.aT bY wF (by simp) ?_
   unfold sK SC.mk' aj.enc Task.enc
   simp only [go_sem]
   have aK:=bZ t 14 14
   have hJ:=ah hg (ah p0 (ah bV (ah e2 e3)))
   exact aZ
 ·simp only [if_neg p0] at hR
  simp only [Bool.not_eq_true] at p0
  have hs1:t.sec.wf n/\cu n t.sec.lock.cells=1:=by
   simp only [beq_eq_false_iff_ne] at p0
   rcases ht.k14 hk with h|h
   ·exact absurd h p0
   ·exact ⟨h.1,h.2.1⟩
  have hl1:=hl
  obtain ⟨hs1,hs2⟩:=hs1
  have hgo:=nE a t k ha hal hs1 hl1.se
  have G:=go_ok (k:=k) ha hal hs1 hl1
  generalize t.go a k=x at hR hgo G
  by_cases e1:x.2.2.2.2≠0
  ·rw [if_pos e1] at hR
   have bV:(x.2.2.2.2 !=0)=true:=by simpa using e1
   refine Fn.aT bY wF (by simp) ?_
   unfold sK SC.mk' aj.enc Task.enc
   simp only [go_sem]
   have aK:=bZ t 14 14
   have aV:=jY x.2.2.2.2
   have hJ:=ah hg (ah p0 bV)
   exact aZ
  rw [if_neg e1] at hR
  have bV:(x.2.2.2.2 !=0)=false:=by simpa using e1
  have G:=G (Decidable.not_not.1 e1)
  have hrl:=kK G.l
  have hel:=kL G.l
  have hcl:=G.cl
  by_cases e2:x.2.2.1=true
  ·rw [if_pos e2] at hR
   have hsh:=G.num (by rw [G.p4 e2];omega)
   have hpl:=N8 x.2.1 G.l.se (by omega)
   have hpo:=(Xj G.l).oo
   generalize oN x.2.1=y at hR hpl hpo
   refine Fn.aT bY wF (by simp) ?_
   unfold sK SC.mk' aj.enc Task.enc
   simp only [go_sem]
   have aK:=bZ t 14 14
   have aV:=fo x.2.1 y.1 hpo hcl
   have hJ:=ah hg (ah p0 (ah bV e2))
   exact aZ
  rw [if_neg e2] at hR
  simp only [Bool.not_eq_true] at e2
  by_cases e3:x.2.2.2.1=true
  ·simp only [e3,Bool.not_true,Bool.false_eq_true,if_false] at hR
   have hsh:=G.num (by rw [G.p9 e3];omega)
   have hpl:=N8 x.2.1 G.l.se (by omega)
   generalize oN x.2.1=y at hR hpl
   refine Fn.aT bY wF (by simp) ?_
   unfold sK SC.mk' aj.enc Task.enc
   simp only [go_sem]
   have aK:=bZ t 14 14
   have aV:=iI x.2.1 y.2.1 k hrl hel
   have hJ:=ah hg (ah p0 (ah bV (ah e2 e3)))
   exact aZ
  ·simp only [Bool.not_eq_true] at e3
   simp only [e3,Bool.not_false,if_true] at hR
   refine Fn.aT bY wF (by simp) ?_
   unfold sK SC.mk' aj.enc Task.enc
   simp only [go_sem]
   have aK:=bZ t 14 14
   have hJ:=ah hg (ah p0 (ah bV (ah e2 e3)))
   exact aZ
end Go.Eng
namespace Go.Eng
open Go Go.Proofs
theorem aoZ (a:aj) (t:Task) (k:Int) {n:Nat} (ha:a.wf n) (hal:a.bf) (ht:t.wf n) (hl:t.bf) (hd:t.dn=false):Fn Tryz.prog 159 [.agg a.enc,.agg t.enc,I k] [] (dw (eY a t k)) [] []:=by
 by_cases h0:t.inv.kind<1\/14<t.inv.kind
 ·have e:eY a t k=dH 9:=by
   unfold eY
   have:∀ j:Int,1<=j->j<=14->(t.inv.kind==j)=false:=fun j h1 h2=>by simp;omega
   simp [hd,this]
  rw [e]
  exact aok a t k h0 hd
 have h:t.inv.kind=1\/t.inv.kind=2\/t.inv.kind=3\/t.inv.kind=4\/t.inv.kind=5\/t.inv.kind=6\/t.inv.kind=7\/t.inv.kind=8\/t.inv.kind=9\/t.inv.kind=10\/t.inv.kind=11\/t.inv.kind=12\/t.inv.kind=13\/t.inv.kind=14:=by omega
 rcases h with h|h|h|h|h|h|h|h|h|h|h|h|h|h
 ·rw [show eY a t k=oH a t k by unfold eY;simp [hd,h]]
  exact an6 a t k h hd _ (an5 a t k ha hal ht hl h hd)
 ·rw [show eY a t k=oI a t k by unfold eY;simp [hd,h]]
  exact an7 a t k h hd _ (aoH a t k ha hal ht hl h hd)
 ·rw [show eY a t k=mr a t k by unfold eY;simp [hd,h]]
  exact an8 a t k h hd _ (Xt a t k ha hal ht hl (by omega) (by omega) hd)
 ·rw [show eY a t k=mr a t k by unfold eY;simp [hd,h]]
  exact an9 a t k h hd _ (Xt a t k ha hal ht hl (by omega) (by omega) hd)
 ·rw [show eY a t k=mr a t k by unfold eY;simp [hd,h]]
  exact aoa a t k h hd _ (Xt a t k ha hal ht hl (by omega) (by omega) hd)
 ·rw [show eY a t k=oJ a t k by unfold eY;simp [hd,h]]
  exact aob a t k h hd _ (aoL a t k hl h hd)
 ·rw [show eY a t k=oK a t k by unfold eY;simp [hd,h]]
  exact aoc a t k h hd _ (aoM a t k ha hl h hd)
 ·rw [show eY a t k=oL a t k by unfold eY;simp [hd,h]]
  exact aod a t k h hd _ (aoO a t k ha hal ht hl h hd)
 ·rw [show eY a t k=yV a t k by unfold eY;simp [hd,h]]
  exact aoe a t k h hd _ (aoP a t k ha hal ht hl h hd)
 ·rw [show eY a t k=yX a t k by unfold eY;simp [hd,h]]
  exact aof a t k h hd _ (aoS a t k ha hal ht hl h hd)
 ·rw [show eY a t k=yY a t k by unfold eY;simp [hd,h]]
  exact aog a t k h hd _ (aoV a t k ha hal ht hl h hd)
 ·rw [show eY a t k=w9 a t k by unfold eY;simp [hd,h]]
  exact aoh a t k h hd _ (ad6 a t k ha hal ht hl (.inl h) hd)
 ·rw [show eY a t k=w9 a t k by unfold eY;simp [hd,h]]
  exact aoi a t k h hd _ (ad6 a t k ha hal ht hl (.inr h) hd)
 ·rw [show eY a t k=yZ a t k by unfold eY;simp [hd,h]]
  exact aoj a t k h hd _ (aoY a t k ha hal ht hl h hd)
end Go.Eng
