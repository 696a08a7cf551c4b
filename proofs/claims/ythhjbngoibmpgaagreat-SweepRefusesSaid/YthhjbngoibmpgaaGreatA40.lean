/-
  Part of a proof: lemmas and definitions of this work.
  No condition.
-/
import Derived.Test.YthhjbngoibmpgaaGreatA08
import Derived.Test.YthhjbngoibmpgaaGreatA39
import Derived.Test.YthhjbngoibmpgaaGreatA30
import Derived.Test.YthhjbngoibmpgaaGreatA35
set_option linter.all false
set_option maxRecDepth 100000
set_option maxHeartbeats 8000000
namespace Go.Eng
open Go Go.Proofs
attribute [local go_sem] aj.enc av.enc Task.enc Ev.enc bD.enc bf.enc cB.enc Dead.enc Dir.enc ak.enc Walk.enc aV.enc aJ.enc bL.enc Setup.enc aS dY dZ List.length_map
theorem aor (a:aj) (t:Task) (k:Int) {n:Nat} (ha:a.wf n) (hal:a.aW) (ht:t.wf n) (hl:t.aW) (hk:t.inv.kind=8) (hd:t.dn=false):Fn Tryz.prog 230 [.agg a.enc,.agg t.enc,I k] [] (dA (oO a t k)) [] []:=by
 generalize hR:oO a t k=R
 unfold oO at hR
 simp only at hR
 have hg:t.guard 8 8=0:=by simp [Task.guard,hd,hk]
 simp only [hg,ne_eq,not_true_eq_false,if_false] at hR
 have hdl:=NR ha
 by_cases p0:(t.pc==0)=true
 ·simp only [if_pos p0] at hR
  have hho:=adm a.dir t.inv.home hdl
  generalize qm a.dir t.inv.home=ho at hR hho
  have hse:=vv {t with dir:=a.dir,slot:=ho} [ho,t.setup.slots] 1 (by simp)
  generalize Task.eU {t with dir:=a.dir,slot:=ho} [ho,t.setup.slots] 1=t1 at hR hse
  refine Fn.aT bY C9 (by simp) ?_
  unfold yA SC.mk' aj.enc Task.enc
  simp only [go_sem]
  have aK:=bZ t 8 8
  have aU:=NK a
  have hJ:=ah hg p0
  exact aZ
 simp only [if_neg p0] at hR
 simp only [Bool.not_eq_true] at p0
 have hs:t.sec.wf n/\cu n t.sec.lock.cells=1:=by
  have hpc:=ht.k8 hk
  simp only [beq_eq_false_iff_ne] at p0
  rcases hpc with h|h
  ·exact absurd h p0
  ·exact ⟨h.1,h.2.1⟩
 have hgo:=nC a t k ha hal hs.1 hl.se
 have G:=go_ok (k:=k) ha hal hs.1 hl
 generalize t.go a k=x at hR hgo G
 by_cases e1:x.2.2.2.2≠0
 ·rw [if_pos e1] at hR
  have bV:(x.2.2.2.2 !=0)=true:=by simpa using e1
  refine Fn.aT bY C9 (by simp) ?_
  unfold yA SC.mk' aj.enc Task.enc
  simp only [go_sem]
  have aK:=bZ t 8 8
  have aU:=jY x.2.2.2.2
  have hJ:=ah hg (ah p0 bV)
  exact aZ
 rw [if_neg e1] at hR
 have bV:(x.2.2.2.2 !=0)=false:=by simpa using e1
 have G:=G (Decidable.not_not.1 e1)
 have hrl:=kJ G.l
 have hel:=kK G.l
 by_cases e2:x.2.2.1=true
 ·rw [if_pos e2] at hR
  have hdc:=aoq x.2.1 G.l.se G.cl (by have:=G.one hs.2 (by rw [G.p4 e2];omega);omega)
  refine Fn.aT bY C9 (by simp) ?_
  unfold yA SC.mk' aj.enc Task.enc
  simp only [go_sem]
  have aK:=bZ t 8 8
  have hJ:=ah hg (ah p0 (ah bV e2))
  exact aZ
 rw [if_neg e2] at hR
 simp only [Bool.not_eq_true] at e2
 by_cases e3:x.2.2.2.1=true
 ·simp only [e3,Bool.not_true,Bool.false_eq_true,if_false] at hR
  have hlen:0<x.2.1.sec.aN.length:=by have:=G.one hs.2 (by rw [G.p9 e3];omega);omega
  have hro:=adt x.2.1 G.l.se hlen
  have hn:=kI hlen
  generalize dW x.2.1.sec.aN 0=s at hR hn
  generalize uY x.2.1=y at hR hro
  refine Fn.aT bY C9 (by simp) ?_
  unfold yA SC.mk' aj.enc Task.enc
  simp only [go_sem]
  have aK:=bZ t 8 8
  have aU:=iH x.2.1 {aV.z with moved:=x.2.1.sec.out.carry.length,err:=3} k hrl hel
  try dsimp only at aU
  have bK:=iH x.2.1 {aV.z with moved:=x.2.1.sec.out.carry.length} k hrl hel
  try dsimp only at bK
  have hJ:=ah hg (ah p0 (ah bV (ah e2 (ah e3 hn))))
  exact aZ
 ·simp only [Bool.not_eq_true] at e3
  simp only [e3,Bool.not_false,if_true] at hR
  refine Fn.aT bY C9 (by simp) ?_
  unfold yA SC.mk' aj.enc Task.enc
  simp only [go_sem]
  have aK:=bZ t 8 8
  have hJ:=ah hg (ah p0 (ah bV (ah e2 e3)))
  exact aZ
end Go.Eng
