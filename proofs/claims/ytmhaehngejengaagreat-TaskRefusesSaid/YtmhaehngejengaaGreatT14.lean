/-
  Part of a proof: lemmas and definitions of this work.
  No condition.
-/
import Derived.Test.YtmhaehngejengaaGreatA12
import Derived.Test.YtmhaehngejengaaGreatT13
set_option linter.all false
set_option maxRecDepth 100000
set_option maxHeartbeats 8000000
namespace Go.Eng
open Go Go.Proofs
attribute [local go_sem] ak.enc ax.enc Task.enc Ev.enc bG.enc bf.enc dG.enc Dead.enc Dir.enc aj.enc Walk.enc aV.enc aH.enc bT.enc Setup.enc aS fD fE List.length_map
theorem adt (a:ak) (t:Task) (k:Int) {n:Nat} (ha:a.wf n) (hal:a.aW) (ht:t.wf n) (hl:t.aW) (hk:t.inv.kind=12∨t.inv.kind=13) (hd:t.dn=false):Fn Tryz.prog 287 [.agg a.enc,.agg t.enc,I k] [] (dW (yZ a t k)) [] []:=by
 generalize hR:yZ a t k=R
 unfold yZ jX at hR
 simp only at hR
 have hg:t.guard 12 13=0:=by simp [Task.guard,hd,-Int.not_lt,-Int.not_le];omega
 simp only [hg,ne_eq,not_true_eq_false,if_false] at hR
 by_cases p0:(t.pc==0)=true
 ·simp only [if_pos p0] at hR
  have hse:=xB t [t.inv.bC] 1 (by simp)
  have hs1:(t.fJ [t.inv.bC] 1).sec.wf n∧True:=⟨(abY ht.su.n6.2 (Xa ht hk).1 (Xa ht hk).2 t.setup.limit ht.su.lim).1,trivial⟩
  have hl1:=Task.xw hl [t.inv.bC] 1
  generalize t.fJ [t.inv.bC] 1=t1 at hR hse hs1 hl1
  obtain ⟨hs1,hs2⟩:=hs1
  have hgo:=oW a t1 k ha hal hs1 hl1.se
  have G:=go_ok (k:=k) ha hal hs1 hl1
  generalize t1.go a k=x at hR hgo G
  by_cases e1:x.2.2.2.2≠0
  ·rw [if_pos e1] at hR
   have e1':(x.2.2.2.2 !=0)=true:=by simpa using e1
   refine Fn.aT dA yD (by simp) ?_
   unfold uX SC.mk' ak.enc Task.enc
   simp only [go_sem]
   have aI:=dw t 12 13
   have aU:=kR x.2.2.2.2
   have hJ:=ah hg (ah p0 e1')
   exact aZ
  rw [if_neg e1] at hR
  have e1':(x.2.2.2.2 !=0)=false:=by simpa using e1
  have G:=G (Decidable.not_not.1 e1)
  have hrl:=lJ G.l
  have hel:=lK G.l
  have hcl:=G.cl
  by_cases e2:x.2.2.1=true
  ·rw [if_pos e2] at hR
   have hsh:=G.num (by rw [G.p4 e2];omega)
   have hpl:=O8 x.2.1 G.l.se
   have hpo:=(XY G.l).oo
   generalize qB x.2.1=y at hR hpl hpo
   refine Fn.aT dA yD (by simp) ?_
   unfold uX SC.mk' ak.enc Task.enc
   simp only [go_sem]
   have aI:=dw t 12 13
   have aU:=fV x.2.1 y.1 hpo hcl
   have hJ:=ah hg (ah p0 (ah e1' e2))
   exact aZ
  rw [if_neg e2] at hR
  simp only [Bool.not_eq_true] at e2
  by_cases e3:x.2.2.2.1=true
  ·simp only [e3,Bool.not_true,Bool.false_eq_true,if_false] at hR
   have hsh:=G.num (by rw [G.p9 e3];omega)
   have hpl:=O8 x.2.1 G.l.se
   generalize qB x.2.1=y at hR hpl
   refine Fn.aT dA yD (by simp) ?_
   unfold uX SC.mk' ak.enc Task.enc
   simp only [go_sem]
   have aI:=dw t 12 13
   have aU:=ji x.2.1 y.2.1 k hrl hel
   have hJ:=ah hg (ah p0 (ah e1' (ah e2 e3)))
   exact aZ
  ·simp only [Bool.not_eq_true] at e3
   simp only [e3,Bool.not_false,if_true] at hR
   refine Fn.aT dA yD (by simp) ?_
   unfold uX SC.mk' ak.enc Task.enc
   simp only [go_sem]
   have aI:=dw t 12 13
   have hJ:=ah hg (ah p0 (ah e1' (ah e2 e3)))
   exact aZ
 ·simp only [if_neg p0] at hR
  simp only [Bool.not_eq_true] at p0
  have hs1:t.sec.wf n∧True:=by
   simp only [beq_eq_false_iff_ne] at p0
   rcases ht.k12 hk with h|h
   ·exact absurd h p0
   ·exact ⟨h.1,trivial⟩
  have hl1:=hl
  obtain ⟨hs1,hs2⟩:=hs1
  have hgo:=oW a t k ha hal hs1 hl1.se
  have G:=go_ok (k:=k) ha hal hs1 hl1
  generalize t.go a k=x at hR hgo G
  by_cases e1:x.2.2.2.2≠0
  ·rw [if_pos e1] at hR
   have e1':(x.2.2.2.2 !=0)=true:=by simpa using e1
   refine Fn.aT dA yD (by simp) ?_
   unfold uX SC.mk' ak.enc Task.enc
   simp only [go_sem]
   have aI:=dw t 12 13
   have aU:=kR x.2.2.2.2
   have hJ:=ah hg (ah p0 e1')
   exact aZ
  rw [if_neg e1] at hR
  have e1':(x.2.2.2.2 !=0)=false:=by simpa using e1
  have G:=G (Decidable.not_not.1 e1)
  have hrl:=lJ G.l
  have hel:=lK G.l
  have hcl:=G.cl
  by_cases e2:x.2.2.1=true
  ·rw [if_pos e2] at hR
   have hsh:=G.num (by rw [G.p4 e2];omega)
   have hpl:=O8 x.2.1 G.l.se
   have hpo:=(XY G.l).oo
   generalize qB x.2.1=y at hR hpl hpo
   refine Fn.aT dA yD (by simp) ?_
   unfold uX SC.mk' ak.enc Task.enc
   simp only [go_sem]
   have aI:=dw t 12 13
   have aU:=fV x.2.1 y.1 hpo hcl
   have hJ:=ah hg (ah p0 (ah e1' e2))
   exact aZ
  rw [if_neg e2] at hR
  simp only [Bool.not_eq_true] at e2
  by_cases e3:x.2.2.2.1=true
  ·simp only [e3,Bool.not_true,Bool.false_eq_true,if_false] at hR
   have hsh:=G.num (by rw [G.p9 e3];omega)
   have hpl:=O8 x.2.1 G.l.se
   generalize qB x.2.1=y at hR hpl
   refine Fn.aT dA yD (by simp) ?_
   unfold uX SC.mk' ak.enc Task.enc
   simp only [go_sem]
   have aI:=dw t 12 13
   have aU:=ji x.2.1 y.2.1 k hrl hel
   have hJ:=ah hg (ah p0 (ah e1' (ah e2 e3)))
   exact aZ
  ·simp only [Bool.not_eq_true] at e3
   simp only [e3,Bool.not_false,if_true] at hR
   refine Fn.aT dA yD (by simp) ?_
   unfold uX SC.mk' ak.enc Task.enc
   simp only [go_sem]
   have aI:=dw t 12 13
   have hJ:=ah hg (ah p0 (ah e1' (ah e2 e3)))
   exact aZ
end Go.Eng
