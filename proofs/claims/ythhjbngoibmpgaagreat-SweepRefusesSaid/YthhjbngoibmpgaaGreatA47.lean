/-
  Part of a proof: lemmas and definitions of this work.
  No condition.
-/
import Derived.Test.YthhjbngoibmpgaaGreatA08
import Derived.Test.YthhjbngoibmpgaaGreatA46
import Derived.Test.YthhjbngoibmpgaaGreatA30
import Derived.Test.YthhjbngoibmpgaaGreatA35
import Derived.Test.YthhjbngoibmpgaaGreatA37
import Derived.Test.YthhjbngoibmpgaaGreatA38
import Derived.Test.YthhjbngoibmpgaaGreatA40
import Derived.Test.YthhjbngoibmpgaaGreatA42
import Derived.Test.YthhjbngoibmpgaaGreatA43
import Derived.Test.YthhjbngoibmpgaaGreatA44
set_option linter.all false
set_option maxRecDepth 100000
set_option maxHeartbeats 8000000
namespace Go.Eng
open Go Go.Proofs
attribute [local go_sem] aj.enc av.enc Task.enc Ev.enc bD.enc bf.enc cB.enc Dead.enc Dir.enc ak.enc Walk.enc aV.enc aJ.enc bL.enc Setup.enc aS dY dZ List.length_map
theorem aoB (a:aj) (t:Task) (k:Int) {n:Nat} (ha:a.wf n) (hal:a.aW) (ht:t.wf n) (hl:t.aW) (hk:t.inv.kind=14) (hd:t.dn=false):Fn Tryz.prog 235 [.agg a.enc,.agg t.enc,I k] [] (dA (za a t k)) [] []:=by
 generalize hR:za a t k=R
 unfold za jB at hR
 simp only at hR
 have hg:t.guard 14 14=0:=by simp [Task.guard,hd,hk]
 simp only [hg,ne_eq,not_true_eq_false,if_false] at hR
 by_cases p0:(t.pc==0)=true
 ·simp only [if_pos p0] at hR
  have hse:=vv t [t.inv.bq,t.setup.slots] 1 (by simp)
  have hs1:(t.eU [t.inv.bq,t.setup.slots] 1).sec.wf n/\cu n (t.eU [t.inv.bq,t.setup.slots] 1).sec.lock.cells=1:=aoz ht hk
  have hl1:=Task.vk hl [t.inv.bq,t.setup.slots] 1
  generalize t.eU [t.inv.bq,t.setup.slots] 1=t1 at hR hse hs1 hl1
  obtain ⟨hs1,hs2⟩:=hs1
  have hgo:=nC a t1 k ha hal hs1 hl1.se
  have G:=go_ok (k:=k) ha hal hs1 hl1
  generalize t1.go a k=x at hR hgo G
  by_cases e1:x.2.2.2.2≠0
  ·rw [if_pos e1] at hR
   have bV:(x.2.2.2.2 !=0)=true:=by simpa using e1
   refine Fn.aT bY wE (by simp) ?_
   unfold sO SC.mk' aj.enc Task.enc
   simp only [go_sem]
   have aK:=bZ t 14 14
   have aU:=jY x.2.2.2.2
   have hJ:=ah hg (ah p0 bV)
   exact aZ
  rw [if_neg e1] at hR
  have bV:(x.2.2.2.2 !=0)=false:=by simpa using e1
  have G:=G (Decidable.not_not.1 e1)
  have hrl:=kJ G.l
  have hel:=kK G.l
  have hcl:=G.cl
  by_cases e2:x.2.2.1=true
  ·rw [if_pos e2] at hR
   have hsh:=G.num (by rw [G.p4 e2];omega)
   have hpl:=N7 x.2.1 G.l.se (by omega)
   have hpo:=(Xf G.l).oo
   generalize oQ x.2.1=y at hR hpl hpo
   refine Fn.aT bY wE (by simp) ?_
   unfold sO SC.mk' aj.enc Task.enc
   simp only [go_sem]
   have aK:=bZ t 14 14
   have aU:=fq x.2.1 y.1 hpo hcl
   have hJ:=ah hg (ah p0 (ah bV e2))
   exact aZ
  rw [if_neg e2] at hR
  simp only [Bool.not_eq_true] at e2
  by_cases e3:x.2.2.2.1=true
  ·simp only [e3,Bool.not_true,Bool.false_eq_true,if_false] at hR
   have hsh:=G.num (by rw [G.p9 e3];omega)
   have hpl:=N7 x.2.1 G.l.se (by omega)
   generalize oQ x.2.1=y at hR hpl
   refine Fn.aT bY wE (by simp) ?_
   unfold sO SC.mk' aj.enc Task.enc
   simp only [go_sem]
   have aK:=bZ t 14 14
   have aU:=iH x.2.1 y.2.1 k hrl hel
   have hJ:=ah hg (ah p0 (ah bV (ah e2 e3)))
   exact aZ
  ·simp only [Bool.not_eq_true] at e3
   simp only [e3,Bool.not_false,if_true] at hR
   refine Fn.aT bY wE (by simp) ?_
   unfold sO SC.mk' aj.enc Task.enc
   simp only [go_sem]
   have aK:=bZ t 14 14
   have hJ:=ah hg (ah p0 (ah bV (ah e2 e3)))
   exact aZ
 ·simp only [if_neg p0] at hR
  simp only [Bool.not_eq_true] at p0
  have hs1:t.sec.wf n/\cu n t.sec.lock.cells=1:=by
   simp only [beq_eq_false_iff_ne] at p0
   rcases ht.k14 hk with h|h
   ·exact absurd h p0
   ·exact ⟨h.1,h.2.1⟩
  have hl1:=hl
  obtain ⟨hs1,hs2⟩:=hs1
  have hgo:=nC a t k ha hal hs1 hl1.se
  have G:=go_ok (k:=k) ha hal hs1 hl1
  generalize t.go a k=x at hR hgo G
  by_cases e1:x.2.2.2.2≠0
  ·rw [if_pos e1] at hR
   have bV:(x.2.2.2.2 !=0)=true:=by simpa using e1
   refine Fn.aT bY wE (by simp) ?_
   unfold sO SC.mk' aj.enc Task.enc
   simp only [go_sem]
   have aK:=bZ t 14 14
   have aU:=jY x.2.2.2.2
   have hJ:=ah hg (ah p0 bV)
   exact aZ
  rw [if_neg e1] at hR
  have bV:(x.2.2.2.2 !=0)=false:=by simpa using e1
  have G:=G (Decidable.not_not.1 e1)
  have hrl:=kJ G.l
  have hel:=kK G.l
  have hcl:=G.cl
  by_cases e2:x.2.2.1=true
  ·rw [if_pos e2] at hR
   have hsh:=G.num (by rw [G.p4 e2];omega)
   have hpl:=N7 x.2.1 G.l.se (by omega)
   have hpo:=(Xf G.l).oo
   generalize oQ x.2.1=y at hR hpl hpo
   refine Fn.aT bY wE (by simp) ?_
   unfold sO SC.mk' aj.enc Task.enc
   simp only [go_sem]
   have aK:=bZ t 14 14
   have aU:=fq x.2.1 y.1 hpo hcl
   have hJ:=ah hg (ah p0 (ah bV e2))
   exact aZ
  rw [if_neg e2] at hR
  simp only [Bool.not_eq_true] at e2
  by_cases e3:x.2.2.2.1=true
  ·simp only [e3,Bool.not_true,Bool.false_eq_true,if_false] at hR
   have hsh:=G.num (by rw [G.p9 e3];omega)
   have hpl:=N7 x.2.1 G.l.se (by omega)
   generalize oQ x.2.1=y at hR hpl
   refine Fn.aT bY wE (by simp) ?_
   unfold sO SC.mk' aj.enc Task.enc
   simp only [go_sem]
   have aK:=bZ t 14 14
   have aU:=iH x.2.1 y.2.1 k hrl hel
   have hJ:=ah hg (ah p0 (ah bV (ah e2 e3)))
   exact aZ
  ·simp only [Bool.not_eq_true] at e3
   simp only [e3,Bool.not_false,if_true] at hR
   refine Fn.aT bY wE (by simp) ?_
   unfold sO SC.mk' aj.enc Task.enc
   simp only [go_sem]
   have aK:=bZ t 14 14
   have hJ:=ah hg (ah p0 (ah bV (ah e2 e3)))
   exact aZ
end Go.Eng
namespace Go.Eng
open Go Go.Proofs
theorem aoC (a:aj) (t:Task) (k:Int) {n:Nat} (ha:a.wf n) (hal:a.aW) (ht:t.wf n) (hl:t.aW) (hd:t.dn=false):Fn Tryz.prog 147 [.agg a.enc,.agg t.enc,I k] [] (dA (eX a t k)) [] []:=by
 by_cases h0:t.inv.kind<1\/14<t.inv.kind
 ·have e:eX a t k=dN 9:=by
   unfold eX
   have:∀ j:Int,1<=j->j<=14->(t.inv.kind==j)=false:=fun j h1 h2=>by simp;omega
   simp [hd,this]
  rw [e]
  exact anX a t k h0 hd
 have h:t.inv.kind=1\/t.inv.kind=2\/t.inv.kind=3\/t.inv.kind=4\/t.inv.kind=5\/t.inv.kind=6\/t.inv.kind=7\/t.inv.kind=8\/t.inv.kind=9\/t.inv.kind=10\/t.inv.kind=11\/t.inv.kind=12\/t.inv.kind=13\/t.inv.kind=14:=by omega
 rcases h with h|h|h|h|h|h|h|h|h|h|h|h|h|h
 ·rw [show eX a t k=oK a t k by unfold eX;simp [hd,h]]
  exact anJ a t k h hd _ (anI a t k ha hal ht hl h hd)
 ·rw [show eX a t k=oL a t k by unfold eX;simp [hd,h]]
  exact anK a t k h hd _ (aok a t k ha hal ht hl h hd)
 ·rw [show eX a t k=mg a t k by unfold eX;simp [hd,h]]
  exact anL a t k h hd _ (Xo a t k ha hal ht hl (by omega) (by omega) hd)
 ·rw [show eX a t k=mg a t k by unfold eX;simp [hd,h]]
  exact anM a t k h hd _ (Xo a t k ha hal ht hl (by omega) (by omega) hd)
 ·rw [show eX a t k=mg a t k by unfold eX;simp [hd,h]]
  exact anN a t k h hd _ (Xo a t k ha hal ht hl (by omega) (by omega) hd)
 ·rw [show eX a t k=oM a t k by unfold eX;simp [hd,h]]
  exact anO a t k h hd _ (aoo a t k hl h hd)
 ·rw [show eX a t k=oN a t k by unfold eX;simp [hd,h]]
  exact anP a t k h hd _ (aop a t k ha hl h hd)
 ·rw [show eX a t k=oO a t k by unfold eX;simp [hd,h]]
  exact anQ a t k h hd _ (aor a t k ha hal ht hl h hd)
 ·rw [show eX a t k=y7 a t k by unfold eX;simp [hd,h]]
  exact anR a t k h hd _ (aos a t k ha hal ht hl h hd)
 ·rw [show eX a t k=y8 a t k by unfold eX;simp [hd,h]]
  exact anS a t k h hd _ (aov a t k ha hal ht hl h hd)
 ·rw [show eX a t k=y9 a t k by unfold eX;simp [hd,h]]
  exact anT a t k h hd _ (aoy a t k ha hal ht hl h hd)
 ·rw [show eX a t k=wY a t k by unfold eX;simp [hd,h]]
  exact anU a t k h hd _ (adx a t k ha hal ht hl (.inl h) hd)
 ·rw [show eX a t k=wY a t k by unfold eX;simp [hd,h]]
  exact anV a t k h hd _ (adx a t k ha hal ht hl (.inr h) hd)
 ·rw [show eX a t k=za a t k by unfold eX;simp [hd,h]]
  exact anW a t k h hd _ (aoB a t k ha hal ht hl h hd)
end Go.Eng
