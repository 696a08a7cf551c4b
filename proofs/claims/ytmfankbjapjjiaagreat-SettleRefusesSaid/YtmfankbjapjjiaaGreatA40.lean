/-
  Part of a proof: lemmas and definitions of this work.
  No condition.
-/
import Derived.Test.YtmfankbjapjjiaaGreatA08
import Derived.Test.YtmfankbjapjjiaaGreatA39
import Derived.Test.YtmfankbjapjjiaaGreatA30
import Derived.Test.YtmfankbjapjjiaaGreatA35
set_option linter.all false
set_option maxRecDepth 100000
set_option maxHeartbeats 8000000
namespace Go.Eng
open Go Go.Proofs
attribute [local go_sem] aj.enc av.enc Task.enc Ev.enc bE.enc aW.enc cB.enc Dead.enc Dir.enc ak.enc Walk.enc aU.enc aI.enc bN.enc Setup.enc aS dX dY List.length_map
theorem aoO (a:aj) (t:Task) (k:Int) {n:Nat} (ha:a.wf n) (hal:a.bf) (ht:t.wf n) (hl:t.bf) (hk:t.inv.kind=8) (hd:t.dn=false):Fn Tryz.prog 216 [.agg a.enc,.agg t.enc,I k] [] (dw (oL a t k)) [] []:=by
 generalize hR:oL a t k=R
 unfold oL at hR
 simp only at hR
 have hg:t.guard 8 8=0:=by simp [Task.guard,hd,hk]
 simp only [hg,ne_eq,not_true_eq_false,if_false] at hR
 have hdl:=NS ha
 by_cases p0:(t.pc==0)=true
 ·simp only [if_pos p0] at hR
  have hho:=adW a.dir t.inv.home hdl
  generalize ql a.dir t.inv.home=ho at hR hho
  have hse:=vg {t with dir:=a.dir,slot:=ho} [ho,t.setup.slots] 1 (by simp)
  generalize Task.eX {t with dir:=a.dir,slot:=ho} [ho,t.setup.slots] 1=t1 at hR hse
  refine Fn.aT bY JO (by simp) ?_
  unfold yt SC.mk' aj.enc Task.enc
  simp only [go_sem]
  have aK:=bZ t 8 8
  have aV:=NM a
  have hJ:=ah hg p0
  exact aZ
 simp only [if_neg p0] at hR
 simp only [Bool.not_eq_true] at p0
 have hs:t.sec.wf n/\cu n t.sec.lock.cells=1:=by
  have hpc:=ht.k8 hk
  simp only [beq_eq_false_iff_ne] at p0
  rcases hpc with h|h
  ·exact absurd h p0
  ·exact ⟨h.1,h.2.1⟩
 have hgo:=nE a t k ha hal hs.1 hl.se
 have G:=go_ok (k:=k) ha hal hs.1 hl
 generalize t.go a k=x at hR hgo G
 by_cases e1:x.2.2.2.2≠0
 ·rw [if_pos e1] at hR
  have bV:(x.2.2.2.2 !=0)=true:=by simpa using e1
  refine Fn.aT bY JO (by simp) ?_
  unfold yt SC.mk' aj.enc Task.enc
  simp only [go_sem]
  have aK:=bZ t 8 8
  have aV:=jY x.2.2.2.2
  have hJ:=ah hg (ah p0 bV)
  exact aZ
 rw [if_neg e1] at hR
 have bV:(x.2.2.2.2 !=0)=false:=by simpa using e1
 have G:=G (Decidable.not_not.1 e1)
 have hrl:=kK G.l
 have hel:=kL G.l
 by_cases e2:x.2.2.1=true
 ·rw [if_pos e2] at hR
  have hdc:=aoN x.2.1 G.l.se G.cl (by have:=G.one hs.2 (by rw [G.p4 e2];omega);omega)
  refine Fn.aT bY JO (by simp) ?_
  unfold yt SC.mk' aj.enc Task.enc
  simp only [go_sem]
  have aK:=bZ t 8 8
  have hJ:=ah hg (ah p0 (ah bV e2))
  exact aZ
 rw [if_neg e2] at hR
 simp only [Bool.not_eq_true] at e2
 by_cases e3:x.2.2.2.1=true
 ·simp only [e3,Bool.not_true,Bool.false_eq_true,if_false] at hR
  have hlen:0<x.2.1.sec.aN.length:=by have:=G.one hs.2 (by rw [G.p9 e3];omega);omega
  have hro:=ad3 x.2.1 G.l.se hlen
  have hn:=kJ hlen
  generalize dZ x.2.1.sec.aN 0=s at hR hn
  generalize uV x.2.1=y at hR hro
  refine Fn.aT bY JO (by simp) ?_
  unfold yt SC.mk' aj.enc Task.enc
  simp only [go_sem]
  have aK:=bZ t 8 8
  have aV:=iI x.2.1 {aU.z with moved:=x.2.1.sec.out.carry.length,err:=3} k hrl hel
  try dsimp only at aV
  have bL:=iI x.2.1 {aU.z with moved:=x.2.1.sec.out.carry.length} k hrl hel
  try dsimp only at bL
  have hJ:=ah hg (ah p0 (ah bV (ah e2 (ah e3 hn))))
  exact aZ
 ·simp only [Bool.not_eq_true] at e3
  simp only [e3,Bool.not_false,if_true] at hR
  refine Fn.aT bY JO (by simp) ?_
  unfold yt SC.mk' aj.enc Task.enc
  simp only [go_sem]
  have aK:=bZ t 8 8
  have hJ:=ah hg (ah p0 (ah bV (ah e2 e3)))
  exact aZ
end Go.Eng
