/-
  Part of a proof: lemmas and definitions of this work.
  No condition.
-/
import Derived.Test.YthhjbngoibmpgaaGreatA08
import Derived.Test.YthhjbngoibmpgaaGreatA41
set_option linter.all false
set_option maxRecDepth 100000
set_option maxHeartbeats 8000000
namespace Go.Eng
open Go Go.Proofs
attribute [local go_sem] aj.enc av.enc Task.enc Ev.enc bD.enc bf.enc cB.enc Dead.enc Dir.enc ak.enc Walk.enc aV.enc aJ.enc bL.enc Setup.enc aS dY dZ List.length_map
theorem aos (a:aj) (t:Task) (k:Int) {n:Nat} (ha:a.wf n) (hal:a.aW) (ht:t.wf n) (hl:t.aW) (hk:t.inv.kind=9) (hd:t.dn=false):Fn Tryz.prog 231 [.agg a.enc,.agg t.enc,I k] [] (dA (y7 a t k)) [] []:=by
 generalize hR:y7 a t k=R
 unfold y7 jB at hR
 simp only at hR
 have hg:t.guard 9 9=0:=by simp [Task.guard,hd,hk]
 simp only [hg,ne_eq,not_true_eq_false,if_false,pairT] at hR
 by_cases p0:(t.pc==0)=true
 ·simp only [if_pos p0] at hR
  have hse:=vv t (jc t.inv.bq t.inv.to) 1 (by simp [jc])
  have hs1:(t.eU (jc t.inv.bq t.inv.to) 1).sec.wf n/\cu n (t.eU (jc t.inv.bq t.inv.to) 1).sec.lock.cells=2:=⟨(zf ht (by omega)).1,by have:=(zf ht (by omega)).2.1;simp only [pairT] at this;rcases this with h|h<;>first|exact h|omega⟩
  have hl1:=Task.vk hl (jc t.inv.bq t.inv.to) 1
  generalize t.eU (jc t.inv.bq t.inv.to) 1=t1 at hR hse hs1 hl1
  obtain ⟨hs1,hs2⟩:=hs1
  have hgo:=nC a t1 k ha hal hs1 hl1.se
  have G:=go_ok (k:=k) ha hal hs1 hl1
  generalize t1.go a k=x at hR hgo G
  by_cases e1:x.2.2.2.2≠0
  ·rw [if_pos e1] at hR
   have bV:(x.2.2.2.2 !=0)=true:=by simpa using e1
   refine Fn.aT bY wz (by simp) ?_
   unfold sI SC.mk' aj.enc Task.enc
   simp only [go_sem]
   have aK:=bZ t 9 9
   have aU:=qx t.inv.bq t.inv.to
   have bK:=jY x.2.2.2.2
   have hJ:=ah hg (ah p0 bV)
   exact aZ
  rw [if_neg e1] at hR
  have bV:(x.2.2.2.2 !=0)=false:=by simpa using e1
  have G:=G (Decidable.not_not.1 e1)
  have hrl:=kJ G.l
  have hel:=kK G.l
  have hcl:=G.cl
  by_cases e2:x.2.2.1=true
  ·rw [if_pos e2] at hR
   have hsh:=G.num (by rw [G.p4 e2];omega)
   have hpl:=NU x.2.1 G.l.se (by omega)
   have hpo:=(Xb G.l).oo
   generalize qZ x.2.1=y at hR hpl hpo
   refine Fn.aT bY wz (by simp) ?_
   unfold sI SC.mk' aj.enc Task.enc
   simp only [go_sem]
   have aK:=bZ t 9 9
   have aU:=qx t.inv.bq t.inv.to
   have bK:=fq x.2.1 y.1 hpo hcl
   have hJ:=ah hg (ah p0 (ah bV e2))
   exact aZ
  rw [if_neg e2] at hR
  simp only [Bool.not_eq_true] at e2
  by_cases e3:x.2.2.2.1=true
  ·simp only [e3,Bool.not_true,Bool.false_eq_true,if_false] at hR
   have hsh:=G.num (by rw [G.p9 e3];omega)
   have hpl:=NU x.2.1 G.l.se (by omega)
   generalize qZ x.2.1=y at hR hpl
   refine Fn.aT bY wz (by simp) ?_
   unfold sI SC.mk' aj.enc Task.enc
   simp only [go_sem]
   have aK:=bZ t 9 9
   have aU:=qx t.inv.bq t.inv.to
   have bK:=iH x.2.1 y.2.1 k hrl hel
   have hJ:=ah hg (ah p0 (ah bV (ah e2 e3)))
   exact aZ
  ·simp only [Bool.not_eq_true] at e3
   simp only [e3,Bool.not_false,if_true] at hR
   refine Fn.aT bY wz (by simp) ?_
   unfold sI SC.mk' aj.enc Task.enc
   simp only [go_sem]
   have aK:=bZ t 9 9
   have aU:=qx t.inv.bq t.inv.to
   have hJ:=ah hg (ah p0 (ah bV (ah e2 e3)))
   exact aZ
 ·simp only [if_neg p0] at hR
  simp only [Bool.not_eq_true] at p0
  have hs1:t.sec.wf n/\cu n t.sec.lock.cells=2:=by
   simp only [beq_eq_false_iff_ne] at p0
   rcases ht.k9 (by omega) (by omega) with h|h
   ·exact absurd h p0
   ·exact ⟨h.1,h.2.1⟩
  have hl1:=hl
  obtain ⟨hs1,hs2⟩:=hs1
  have hgo:=nC a t k ha hal hs1 hl1.se
  have G:=go_ok (k:=k) ha hal hs1 hl1
  generalize t.go a k=x at hR hgo G
  by_cases e1:x.2.2.2.2≠0
  ·rw [if_pos e1] at hR
   have bV:(x.2.2.2.2 !=0)=true:=by simpa using e1
   refine Fn.aT bY wz (by simp) ?_
   unfold sI SC.mk' aj.enc Task.enc
   simp only [go_sem]
   have aK:=bZ t 9 9
   have aU:=jY x.2.2.2.2
   have hJ:=ah hg (ah p0 bV)
   exact aZ
  rw [if_neg e1] at hR
  have bV:(x.2.2.2.2 !=0)=false:=by simpa using e1
  have G:=G (Decidable.not_not.1 e1)
  have hrl:=kJ G.l
  have hel:=kK G.l
  have hcl:=G.cl
  by_cases e2:x.2.2.1=true
  ·rw [if_pos e2] at hR
   have hsh:=G.num (by rw [G.p4 e2];omega)
   have hpl:=NU x.2.1 G.l.se (by omega)
   have hpo:=(Xb G.l).oo
   generalize qZ x.2.1=y at hR hpl hpo
   refine Fn.aT bY wz (by simp) ?_
   unfold sI SC.mk' aj.enc Task.enc
   simp only [go_sem]
   have aK:=bZ t 9 9
   have aU:=fq x.2.1 y.1 hpo hcl
   have hJ:=ah hg (ah p0 (ah bV e2))
   exact aZ
  rw [if_neg e2] at hR
  simp only [Bool.not_eq_true] at e2
  by_cases e3:x.2.2.2.1=true
  ·simp only [e3,Bool.not_true,Bool.false_eq_true,if_false] at hR
   have hsh:=G.num (by rw [G.p9 e3];omega)
   have hpl:=NU x.2.1 G.l.se (by omega)
   generalize qZ x.2.1=y at hR hpl
   refine Fn.aT bY wz (by simp) ?_
   unfold sI SC.mk' aj.enc Task.enc
   simp only [go_sem]
   have aK:=bZ t 9 9
   have aU:=iH x.2.1 y.2.1 k hrl hel
   have hJ:=ah hg (ah p0 (ah bV (ah e2 e3)))
   exact aZ
  ·simp only [Bool.not_eq_true] at e3
   simp only [e3,Bool.not_false,if_true] at hR
   refine Fn.aT bY wz (by simp) ?_
   unfold sI SC.mk' aj.enc Task.enc
   simp only [go_sem]
   have aK:=bZ t 9 9
   have hJ:=ah hg (ah p0 (ah bV (ah e2 e3)))
   exact aZ
end Go.Eng
