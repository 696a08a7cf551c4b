/-
  Part of a proof: lemmas and definitions of this work.
  No condition.
-/
import Derived.Test.YthhjbngoibmpgaaGreatA08
import Derived.Test.YthhjbngoibmpgaaGreatA28
set_option linter.all false
set_option maxRecDepth 100000
set_option maxHeartbeats 8000000
namespace Go.Eng
open Go Go.Proofs
attribute [local go_sem] aj.enc av.enc Task.enc Ev.enc bD.enc bf.enc cB.enc Dead.enc Dir.enc ak.enc Walk.enc aV.enc aJ.enc bL.enc Setup.enc aS dY dZ List.length_map
abbrev dA (x:gF):AV:= .aF [.agg x.1.enc,.agg x.2.1.enc,.sl 10 (x.2.2.1.map Ev.enc),I x.2.2.2]
theorem anH (a:aj):a.load 3=(a.fB,0):=rfl
theorem adk (a:aj):a.load 1=(a.epoch,0):=rfl
theorem kJ {t:Task} (h:t.aW):t.results.length<=1000:=by have:=h.re;have:=h.en;have:=h.e6;omega
theorem kK {t:Task} (h:t.aW):0<=t.entry/\t.entry<=1000:=by have:=h.e0;have:=h.en;have:=h.e6;omega
theorem NR {n:Nat} {a:aj} (h:a.wf n):a.dir.l.length<=70000:=by have:=Bq h.dv;omega
structure zx (n:Nat) (t x:Task) (d e:Bool):Prop where
 l:x.aW
 w:x.sec.wf n
 c:x.sec.lock.cells=t.sec.lock.cells
 i:x.inv=t.inv
 en:x.entry=t.entry
 hd:x.hnd=t.hnd
 su:x.setup=t.setup
 p4:d=true->x.sec.phase=4
 p9:e=true->x.sec.phase=9
theorem go_ok {n:Nat} {a:aj} {t:Task} {k:Int} (ha:a.wf n) (hal:a.aW) (hs:t.sec.wf n) (hl:t.aW) (e:(t.go a k).2.2.2.2=0):zx n t (t.go a k).2.1 (t.go a k).2.2.1 (t.go a k).2.2.2.1:=by
 obtain ⟨g1,s,g2,g3,g4,g5,g6⟩:=Task.go_wf ha hs (k:=k) e
 obtain ⟨l1,l2⟩:=Task.Br hal ha hl (k:=k) e
 have h2:(t.go a k).2.1.sec=s:=by rw [g2]
 exact ⟨l2,by rw [h2];exact g3,by rw [h2];exact g4,by rw [g2],by rw [g2],by rw [g2],by rw [g2],fun h=>by rw [h2];exact g5 h,fun h=>by rw [h2];exact g6 h⟩
theorem zx.one {n:Nat} {t x:Task} {d e:Bool} (g:zx n t x d e) (h:cu n t.sec.lock.cells=1) (hp:3<=x.sec.phase):x.sec.aN.length=1:=by
 have:=(g.w.q3 hp).2
 rw [g.c] at this
 omega
theorem zx.cl {n:Nat} {t x:Task} {d e:Bool} (g:zx n t x d e):x.sec.lock.cells.length<=1000:=by have:=g.w.lk.l3;omega
theorem anI (a:aj) (t:Task) (k:Int) {n:Nat} (ha:a.wf n) (hal:a.aW) (ht:t.wf n) (hl:t.aW) (hk:t.inv.kind=1) (hd:t.dn=false):Fn Tryz.prog 226 [.agg a.enc,.agg t.enc,I k] [] (dA (oK a t k)) [] []:=by
 generalize hR:oK a t k=R
 unfold oK at hR
 simp only at hR
 have hg:t.guard 1 1=0:=by simp [Task.guard,hd,hk]
 simp only [hg,ne_eq,not_true_eq_false,if_false] at hR
 have h1:=kJ hl
 have h2:=kK hl
 have hdl:=NR ha
 have ld:=anH a
 by_cases p0:(t.pc==0)=true
 ·simp only [if_pos p0] at hR
  refine Fn.aT bY uJ (by simp) ?_
  unfold uI SC.mk' aj.enc Task.enc
  simp only [go_sem]
  have aK:=bZ t 1 1
  have aU:=zo a 3
  have bK:=DU {t with loaded:=a.fB} 2 k
  try dsimp only at bK
  have dV:=iH {t with loaded:=a.fB} {aV.z with err:=6} k h1 h2
  try dsimp only at dV
  have hJ:=ah hg (ah p0 ld)
  exact aY
 simp only [if_neg p0] at hR
 simp only [Bool.not_eq_true] at p0
 by_cases p1:(t.pc==1)=true
 ·simp only [if_pos p1] at hR
  refine Fn.aT bY uJ (by simp) ?_
  unfold uI SC.mk' aj.enc Task.enc
  simp only [go_sem]
  generalize hw:IntKind.i64.wrap (t.loaded+1)=w at hR ⊢
  have aK:=bZ t 1 1
  have aU:=acW a 3 t.loaded w
  have bK:=jY (a.lY 3 t.loaded w).2.2
  have dV:=abf t.loaded
  have fQ:=adf (yF t.loaded)
  have hJ:=ah hg (ah p0 (ah p1 hw))
  exact aY
 simp only [if_neg p1] at hR
 simp only [Bool.not_eq_true] at p1
 by_cases p2:(t.pc==2)=true
 ·simp only [if_pos p2] at hR
  refine Fn.aT bY uJ (by simp) ?_
  unfold uI SC.mk' aj.enc Task.enc
  simp only [go_sem]
  have aK:=bZ t 1 1
  have aU:=Xi a t t.walk.next 3 hdl
  have hJ:=ah hg (ah p0 (ah p1 p2))
  exact aY
 simp only [if_neg p2] at hR
 simp only [Bool.not_eq_true] at p2
 have hs:t.sec.wf n/\cu n t.sec.lock.cells=1:=by
  have hpc:=(ht.k1 hk).2
  simp only [beq_eq_false_iff_ne] at p0 p1 p2
  rcases hpc with h|h|h|h<;>first|omega|exact h
 have hgo:=nC a t k ha hal hs.1 hl.se
 have G:=go_ok (k:=k) ha hal hs.1 hl
 generalize t.go a k=x at hR hgo G
 by_cases e1:x.2.2.2.2≠0
 ·rw [if_pos e1] at hR
  have bV:(x.2.2.2.2 !=0)=true:=by simpa using e1
  refine Fn.aT bY uJ (by simp) ?_
  unfold uI SC.mk' aj.enc Task.enc
  simp only [go_sem]
  have aK:=bZ t 1 1
  have aU:=jY x.2.2.2.2
  have hJ:=ah hg (ah p0 (ah p1 (ah p2 bV)))
  exact aY
 rw [if_neg e1] at hR
 have bV:(x.2.2.2.2 !=0)=false:=by simpa using e1
 have G:=G (Decidable.not_not.1 e1)
 have hrl:=kJ G.l
 have hel:=kK G.l
 by_cases e2:x.2.2.1=true
 ·rw [if_pos e2] at hR
  have hb:x.2.1.entry<x.2.1.inv.bodies.length:=by
   have:=G.l.en
   unfold bM.entries at this
   rw [G.i,hk] at this
   rw [G.i]
   simpa using this
  have hdc:=anG x.2.1 G.l.se G.cl (G.one hs.2 (by rw [G.p4 e2];omega)) ⟨G.l.e0,hb⟩
  refine Fn.aT bY uJ (by simp) ?_
  unfold uI SC.mk' aj.enc Task.enc
  simp only [go_sem]
  have aK:=bZ t 1 1
  have hJ:=ah hg (ah p0 (ah p1 (ah p2 (ah bV e2))))
  exact aY
 rw [if_neg e2] at hR
 simp only [Bool.not_eq_true] at e2
 by_cases e3:x.2.2.2.1=true
 ·simp only [e3,Bool.not_true,Bool.false_eq_true,if_false] at hR
  refine Fn.aT bY uJ (by simp) ?_
  unfold uI SC.mk' aj.enc Task.enc
  simp only [go_sem]
  have aK:=bZ t 1 1
  have aU:=iH x.2.1 {aV.z with id:=x.2.1.id} k hrl hel
  try dsimp only at aU
  have bK:=iH x.2.1 {aV.z with err:=3} k hrl hel
  try dsimp only at bK
  have hJ:=ah hg (ah p0 (ah p1 (ah p2 (ah bV (ah e2 e3)))))
  exact aY
 ·simp only [Bool.not_eq_true] at e3
  simp only [e3,Bool.not_false,if_true] at hR
  refine Fn.aT bY uJ (by simp) ?_
  unfold uI SC.mk' aj.enc Task.enc
  simp only [go_sem]
  have aK:=bZ t 1 1
  have hJ:=ah hg (ah p0 (ah p1 (ah p2 (ah bV (ah e2 e3)))))
  exact aY
end Go.Eng
