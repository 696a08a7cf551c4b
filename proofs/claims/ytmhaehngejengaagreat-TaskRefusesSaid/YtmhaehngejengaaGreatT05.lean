/-
  Part of a proof: lemmas and definitions of this work.
  No condition.
-/
import Derived.Test.YtmhaehngejengaaGreatA12
import Derived.Test.YtmhaehngejengaaGreatT01
import Derived.Test.YtmhaehngejengaaGreatT02
import Derived.Test.YtmhaehngejengaaGreatT03
import Derived.Test.YtmhaehngejengaaGreatT04
set_option linter.all false
set_option maxRecDepth 100000
set_option maxHeartbeats 8000000
namespace Go.Eng
open Go Go.Proofs
attribute [local go_sem] ak.enc ax.enc Task.enc Ev.enc bG.enc bf.enc dG.enc Dead.enc Dir.enc aj.enc Walk.enc aV.enc aH.enc bT.enc Setup.enc aS fD fE List.length_map
theorem apI (t:Task) (hl:t.sec.aW) (hc:t.sec.lock.cells.length≤1000) (h1:0<t.sec.shards.length):Fn Tryz.prog 355 [.agg t.enc] [] (.aF [.agg (kN t).1.enc,.sl 10 ((kN t).2.map Ev.enc)]) [] []:=by
 by_cases h8:0<(lF {t with loaded:=0}).2.1.length
 ·generalize hR:kN t=R
  unfold kN at hR
  simp only at hR
  have hn:=lI h1
  have hsm:=oV hl 0
  generalize eH t.sec.shards 0=s at hR hn hsm
  by_cases c1:s.owns t.walk.next=true
  ·simp only [c1,Bool.not_true,Bool.false_eq_true,if_false] at hR
   by_cases c2:1073741824<IntKind.i64.wrap (t.sec.aG.clock+t.inv.vis)
   ·simp only [if_pos c2] at hR
    have c2':decide (1073741824<IntKind.i64.wrap (t.sec.aG.clock+t.inv.vis))=true:=by simpa using c2
    clear h8
    refine Fn.aT bY uZ (by simp) ?_
    unfold rE SC.mk' Task.enc
    simp only [hn,aj.enc,List.length_map,go_sem]
    repeat (refine bn ?_)
    have aI:=gQ t.sec
    have aU:=lG s t.walk.next hsm
    have bK:=jR {t with loaded:=0} 3
    try dsimp only at bK
    have eF:=fV {t with loaded:=3} t.sec.bg (by simp [ax.bg]) hc
    try dsimp only at eF
    have hJ:=ah hn (ah c1 c2')
    exact aZ
   simp only [if_neg c2] at hR
   have htk:=X5 {t with loaded:=0} hl h1
   have hE:=apA {t with loaded:=0}
   have hL:=X6 {t with loaded:=0}
   generalize hw:(t.walk.oN s.low s.high).1=w at hR
   generalize lF {t with loaded:=0}=x at hR htk hE hL h8
   by_cases c9:0<x.2.2.length
   ·simp only [h8,c9,true_or,if_true] at hR
    rw [←hR]
    exact apE t hl hc h1 s hn hsm x htk hE hL h8 c1 c2 w hw c9
   ·simp only [h8,c9,true_or,if_true,if_false] at hR
    by_cases c3:w.over=true
    ·simp only [c3,if_true] at hR
     rw [←hR]
     exact apD t hl hc h1 s hn hsm x htk hE hL h8 c1 c2 w hw c9 c3
    ·simp only [c3,Bool.false_eq_true,if_false] at hR
     rw [←hR]
     exact apC t hl hc h1 s hn hsm x htk hE hL h8 c1 c2 w hw c9 (by simpa using c3)
  ·simp only [Bool.not_eq_true] at c1
   simp only [c1,Bool.not_false,if_true] at hR
   clear h8
   refine Fn.aT bY uZ (by simp) ?_
   unfold rE SC.mk' Task.enc
   simp only [hn,aj.enc,List.length_map,go_sem]
   repeat (refine bn ?_)
   have aI:=gQ t.sec
   have aU:=lG s t.walk.next hsm
   have bK:=fV {t with loaded:=0} t.sec.bg (by simp [ax.bg]) hc
   try dsimp only at bK
   have hJ:=ah hn c1
   exact aZ
 ·exact apB t hl hc h1 h8
theorem apJ (a:ak) (t:Task) (k:Int) {n:Nat} (ha:a.wf n) (hal:a.aW) (ht:t.wf n) (hl:t.aW) (hk:t.inv.kind=2) (hd:t.dn=false):Fn Tryz.prog 279 [.agg a.enc,.agg t.enc,I k] [] (dW (qw a t k)) [] []:=by
 generalize hR:qw a t k=R
 unfold qw at hR
 simp only at hR
 have hg:t.guard 2 2=0:=by simp [Task.guard,hd,hk]
 simp only [hg,ne_eq,not_true_eq_false,if_false] at hR
 have hdl:=O1 ha
 by_cases p0:(t.pc==0)=true
 ·simp only [if_pos p0] at hR
  have hho:=adi a.dir t.inv.home hdl
  generalize rQ a.dir t.inv.home=ho at hR hho
  have hsp:=anI a.dir ho hdl
  generalize a.dir.span ho=sp at hR hsp
  generalize hwb:(Walk.begin sp.1.low).1=wb at hR
  have hse:=xB {t with dir:=a.dir,slot:=ho,walk:=wb} [ho] 1 (by simp)
  generalize Task.fJ {t with dir:=a.dir,slot:=ho,walk:=wb} [ho] 1=t1 at hR hse
  refine Fn.aT dA CS (by simp) ?_
  unfold yw SC.mk' ak.enc Task.enc
  simp only [go_sem]
  have aI:=dw t 2 2
  have aU:=OW a
  have bK:=ac9 sp.1.low
  have hJ:=ah hg (ah p0 (ah hwb Span.enc.eq_1))
  exact aZ
 simp only [if_neg p0] at hR
 simp only [Bool.not_eq_true] at p0
 by_cases p2:(t.pc==2)=true
 ·simp only [if_pos p2] at hR
  refine Fn.aT dA CS (by simp) ?_
  unfold yw SC.mk' ak.enc Task.enc
  simp only [go_sem]
  have aI:=dw t 2 2
  have aU:=X4 a t t.walk.next 1 hdl
  have hJ:=ah hg (ah p0 p2)
  exact aZ
 simp only [if_neg p2] at hR
 simp only [Bool.not_eq_true] at p2
 have hs:t.sec.wf n∧dB n t.sec.lock.cells=1:=by
  have hpc:=(ht.k2 hk).2
  simp only [beq_eq_false_iff_ne] at p0 p2
  rcases hpc with h|h|h<;>first|omega|exact h
 have hgo:=oW a t k ha hal hs.1 hl.se
 have G:=go_ok (k:=k) ha hal hs.1 hl
 generalize t.go a k=x at hR hgo G
 by_cases e1:x.2.2.2.2≠0
 ·rw [if_pos e1] at hR
  have e1':(x.2.2.2.2 !=0)=true:=by simpa using e1
  refine Fn.aT dA CS (by simp) ?_
  unfold yw SC.mk' ak.enc Task.enc
  simp only [go_sem]
  have aI:=dw t 2 2
  have aU:=kR x.2.2.2.2
  have hJ:=ah hg (ah p0 (ah p2 e1'))
  exact aZ
 rw [if_neg e1] at hR
 have e1':(x.2.2.2.2 !=0)=false:=by simpa using e1
 have G:=G (Decidable.not_not.1 e1)
 have hrl:=lJ G.l
 have hel:=lK G.l
 by_cases e2:x.2.2.1=true
 ·rw [if_pos e2] at hR
  have hdc:=apI x.2.1 G.l.se G.cl (by have:=G.one hs.2 (by rw [G.p4 e2];omega);omega)
  refine Fn.aT dA CS (by simp) ?_
  unfold yw SC.mk' ak.enc Task.enc
  simp only [go_sem]
  have aI:=dw t 2 2
  have hJ:=ah hg (ah p0 (ah p2 (ah e1' e2)))
  exact aZ
 rw [if_neg e2] at hR
 simp only [Bool.not_eq_true] at e2
 by_cases e3:x.2.2.2.1=true
 ·simp only [e3,Bool.not_true,Bool.false_eq_true,if_false] at hR
  have hlen:0<x.2.1.sec.shards.length:=by have:=G.one hs.2 (by rw [G.p9 e3];omega);omega
  have hre:=apz x.2.1 G.l.se hlen
  generalize AX x.2.1=y at hR hre
  refine Fn.aT dA CS (by simp) ?_
  unfold yw SC.mk' ak.enc Task.enc
  simp only [go_sem]
  have aI:=dw t 2 2
  have aU:=ji x.2.1 {aV.z with err:=6} k hrl hel
  try dsimp only at aU
  have bK:=ji x.2.1 aV.z k hrl hel
  have eF:=ji x.2.1 y k hrl hel
  have hJ:=ah hg (ah p0 (ah p2 (ah e1' (ah e2 e3))))
  exact aZ
 ·simp only [Bool.not_eq_true] at e3
  simp only [e3,Bool.not_false,if_true] at hR
  refine Fn.aT dA CS (by simp) ?_
  unfold yw SC.mk' ak.enc Task.enc
  simp only [go_sem]
  have aI:=dw t 2 2
  have hJ:=ah hg (ah p0 (ah p2 (ah e1' (ah e2 e3))))
  exact aZ
end Go.Eng
