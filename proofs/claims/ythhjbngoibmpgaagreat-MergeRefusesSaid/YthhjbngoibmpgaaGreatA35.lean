/-
  Part of a proof: lemmas and definitions of this work.
  No condition.
-/
import Derived.Test.YthhjbngoibmpgaaGreatA08
import Derived.Test.YthhjbngoibmpgaaGreatA29
import Derived.Test.YthhjbngoibmpgaaGreatA32
import Derived.Test.YthhjbngoibmpgaaGreatA33
import Derived.Test.YthhjbngoibmpgaaGreatA34
set_option linter.all false
set_option maxRecDepth 100000
set_option maxHeartbeats 8000000
namespace Go.Eng
open Go Go.Proofs
attribute [local go_sem] aj.enc av.enc Task.enc Ev.enc bD.enc bf.enc cB.enc Dead.enc Dir.enc ak.enc Walk.enc aV.enc aJ.enc bL.enc Setup.enc aS dY dZ List.length_map
abbrev DW (p:qY):AV:= .aF [.agg p.1.enc,.agg p.2.1.enc,.sl 10 (p.2.2.map Ev.enc)]
theorem wq (n:Int):IntKind.i64.wrap ((IntKind.i64.wrap n).tdiv 2)=(IntKind.i64.wrap n).tdiv 2:=by
 have h: -9223372036854775808<=IntKind.i64.wrap n/\IntKind.i64.wrap n<=9223372036854775807:=by rw [IntKind.wrap_i64];omega
 generalize IntKind.i64.wrap n=x at h
 have e: -9223372036854775808<=x.tdiv 2/\x.tdiv 2<=9223372036854775807:=by
  by_cases h0:0<=x
  ·rw [Int.tdiv_eq_ediv_of_nonneg h0];omega
  ·have:x= -(-x):=by omega
   rw [this,Int.neg_tdiv,Int.tdiv_eq_ediv_of_nonneg (by omega)];omega
 exact bE (by omega)
theorem Bt (a b:Int):nth (encI [a,b]) 0=[I a]:=rfl
theorem Bu (a b:Int):nth (encI [a,b]) 1=[I b]:=rfl
theorem Bv (a b:Int):(encI [a,b]).length=2:=rfl
theorem zx.num {n:Nat} {t x:Task} {d e:Bool} (g:zx n t x d e) (hp:3<=x.sec.phase):x.sec.aN.length=cu n t.sec.lock.cells:=by
 have:=(g.w.q3 hp).2
 rw [g.c] at this
 omega
theorem Xl {t:Task} (hl:t.sec.aW):(jW t).sm:=nA hl _
theorem Xm {t:Task} (hl:t.sec.aW):(lI t).sm:=nA hl _
theorem aog (s:ak) (k:Int):(s.iF k).2.1.length<=1000:=by
 have:=s.ready.rz
 unfold ak.iF Ring.iF
 repeat' split
 all_goals simp
 all_goals omega
theorem adq (t:Task):Fn Tryz.prog 383 [.agg t.enc] [] (.sl 1 (encI (iL t))) [] []:=by
 generalize hR:iL t=R
 unfold iL at hR
 refine Fn.aO ajh (by simp) ?_
 unfold U3 SC.mk' Task.enc
 simp only [go_sem]
 have hJ:=trivial
 repeat' first
  |(first|refine sC ?_|refine sD ?_);simp only [hJ,go_sem]
  |(first|refine bC (fun hq=> ?_) (fun hq=> ?_)|refine dR (fun hq=> ?_) (fun hq=> ?_)|refine dD (fun hq=> ?_) (fun hq=> ?_))<;>simp only [hq,hJ,go_sem]
  |refine sM ?_;simp only [ay,rv,au,get,hJ,go_sem]
  |refine bn ?_
  |fail
 all_goals clear hJ
 all_goals (simp_all [-Int.not_lt,-Int.not_le];subst hR;rfl)
theorem aoh (t:Task) (h2:t.sec.aN.length=2):Fn Tryz.prog 380 [.agg t.enc] [] (.aF [.agg (jW t).enc,.agg (lI t).enc]) [] []:=by
 have ho:=adq t
 have n0:=kI (show 0<t.sec.aN.length by omega)
 have n1:=kI (show 1<t.sec.aN.length by omega)
 generalize hR:jW t=R
 generalize hQ:lI t=Q
 unfold jW at hR
 unfold lI at hQ
 unfold iL at ho
 by_cases c:t.inv.bq<t.inv.to
 ·simp only [c,if_true] at hR hQ ho
  refine Fn.aT bR aa1 (by simp) ?_
  unfold MP SC.mk' Task.enc
  simp only [go_sem]
  have hJ:=ah h2 (ah n0 (ah n1 (ah @Bt (ah @Bu @Bv))))
  exact aZ
 ·simp only [c,if_false] at hR hQ ho
  refine Fn.aT bR aa1 (by simp) ?_
  unfold MP SC.mk' Task.enc
  simp only [go_sem]
  have hJ:=ah h2 (ah n0 (ah n1 (ah @Bt (ah @Bu @Bv))))
  exact aZ
theorem aoi (t:Task) (x y:ak):Fn Tryz.prog 382 [.agg t.enc,.agg x.enc,.agg y.enc] [] (.sl 8 ((placed t x y).map ak.enc)) [] []:=by
 generalize hR:placed t x y=R
 unfold placed at hR
 refine Fn.aO ajg (by simp) ?_
 unfold UZ SC.mk' Task.enc ak.enc
 simp only [go_sem]
 have hJ:=trivial
 repeat' first
  |(first|refine sC ?_|refine sD ?_|refine sZ ?_|refine sY ?_|refine sF ?_);simp only [hJ,go_sem]
  |(first|refine bC (fun hq=> ?_) (fun hq=> ?_)|refine dR (fun hq=> ?_) (fun hq=> ?_)|refine dD (fun hq=> ?_) (fun hq=> ?_))<;>simp only [hq,hJ,go_sem]
  |refine sM ?_;simp only [ay,rv,au,get,hJ,go_sem]
  |refine bn ?_
  |fail
 all_goals clear hJ
 all_goals (simp_all [-Int.not_lt,-Int.not_le];subst hR;simp [ak.enc,rv,au,get])
end Go.Eng
namespace Go.Eng
open Go Go.Proofs
attribute [local go_sem] aj.enc av.enc Task.enc Ev.enc bD.enc bf.enc cB.enc Dead.enc Dir.enc ak.enc Walk.enc aV.enc aJ.enc bL.enc Setup.enc aS dY dZ List.length_map
theorem aoj (t:Task) (hl:t.sec.aW) (hc:t.sec.lock.cells.length<=1000) (h1:0<t.sec.aN.length):Fn Tryz.prog 315 [.agg t.enc] [] (.aF [.agg (jV t).1.enc,.sl 10 ((jV t).2.map Ev.enc)]) [] []:=by
 by_cases h8:0<(kF {t with loaded:=0}).2.1.length
 ·generalize hR:jV t=R
  unfold jV at hR
  simp only at hR
  have hn:=kI h1
  have hsm:=nA hl 0
  generalize dW t.sec.aN 0=s at hR hn hsm
  by_cases c1:s.owns t.walk.next=true
  ·simp only [c1,Bool.not_true,Bool.false_eq_true,if_false] at hR
   by_cases c2:1073741824<IntKind.i64.wrap (t.sec.aI.clock+t.inv.bB)
   ·simp only [if_pos c2] at hR
    have c2':decide (1073741824<IntKind.i64.wrap (t.sec.aI.clock+t.inv.bB))=true:=by simpa using c2
    clear h8
    refine Fn.aT bR sP (by simp) ?_
    unfold qb SC.mk' Task.enc
    simp only [hn,ak.enc,List.length_map,go_sem]
    repeat (refine bn ?_)
    have aK:=fF t.sec
    have aU:=kG s t.walk.next hsm
    have bK:=jm {t with loaded:=0} 3
    try dsimp only at bK
    have dV:=fq {t with loaded:=3} t.sec.bg (by simp [av.bg]) hc
    try dsimp only at dV
    have hJ:=ah hn (ah c1 c2')
    exact aZ
   simp only [if_neg c2] at hR
   have htk:=Xj {t with loaded:=0} hl h1
   have hE:=aoa {t with loaded:=0}
   have hL:=Xk {t with loaded:=0}
   generalize hw:(t.walk.ng s.low s.high).1=w at hR
   generalize kF {t with loaded:=0}=x at hR htk hE hL h8
   by_cases c9:0<x.2.2.length
   ·simp only [h8,c9,true_or,if_true] at hR
    rw [<-hR]
    exact aoe t hl hc h1 s hn hsm x htk hE hL h8 c1 c2 w hw c9
   ·simp only [h8,c9,true_or,if_true,if_false] at hR
    by_cases c3:w.over=true
    ·simp only [c3,if_true] at hR
     rw [<-hR]
     exact aod t hl hc h1 s hn hsm x htk hE hL h8 c1 c2 w hw c9 c3
    ·simp only [c3,Bool.false_eq_true,if_false] at hR
     rw [<-hR]
     exact aoc t hl hc h1 s hn hsm x htk hE hL h8 c1 c2 w hw c9 (by simpa using c3)
  ·simp only [Bool.not_eq_true] at c1
   simp only [c1,Bool.not_false,if_true] at hR
   clear h8
   refine Fn.aT bR sP (by simp) ?_
   unfold qb SC.mk' Task.enc
   simp only [hn,ak.enc,List.length_map,go_sem]
   repeat (refine bn ?_)
   have aK:=fF t.sec
   have aU:=kG s t.walk.next hsm
   have bK:=fq {t with loaded:=0} t.sec.bg (by simp [av.bg]) hc
   try dsimp only at bK
   have hJ:=ah hn c1
   exact aZ
 ·exact aob t hl hc h1 h8
theorem aok (a:aj) (t:Task) (k:Int) {n:Nat} (ha:a.wf n) (hal:a.aW) (ht:t.wf n) (hl:t.aW) (hk:t.inv.kind=2) (hd:t.dn=false):Fn Tryz.prog 227 [.agg a.enc,.agg t.enc,I k] [] (dA (oL a t k)) [] []:=by
 generalize hR:oL a t k=R
 unfold oL at hR
 simp only at hR
 have hg:t.guard 2 2=0:=by simp [Task.guard,hd,hk]
 simp only [hg,ne_eq,not_true_eq_false,if_false] at hR
 have hdl:=NR ha
 by_cases p0:(t.pc==0)=true
 ·simp only [if_pos p0] at hR
  have hho:=adm a.dir t.inv.home hdl
  generalize qm a.dir t.inv.home=ho at hR hho
  have hsp:=ame a.dir ho hdl
  generalize a.dir.span ho=sp at hR hsp
  generalize hwb:(Walk.begin sp.1.low).1=wb at hR
  have hse:=vv {t with dir:=a.dir,slot:=ho,walk:=wb} [ho] 1 (by simp)
  generalize Task.eU {t with dir:=a.dir,slot:=ho,walk:=wb} [ho] 1=t1 at hR hse
  refine Fn.aT bY Ay (by simp) ?_
  unfold wu SC.mk' aj.enc Task.enc
  simp only [go_sem]
  have aK:=bZ t 2 2
  have aU:=NK a
  have bK:=adf sp.1.low
  have hJ:=ah hg (ah p0 (ah hwb Span.enc.eq_1))
  exact aZ
 simp only [if_neg p0] at hR
 simp only [Bool.not_eq_true] at p0
 by_cases p2:(t.pc==2)=true
 ·simp only [if_pos p2] at hR
  refine Fn.aT bY Ay (by simp) ?_
  unfold wu SC.mk' aj.enc Task.enc
  simp only [go_sem]
  have aK:=bZ t 2 2
  have aU:=Xi a t t.walk.next 1 hdl
  have hJ:=ah hg (ah p0 p2)
  exact aZ
 simp only [if_neg p2] at hR
 simp only [Bool.not_eq_true] at p2
 have hs:t.sec.wf n/\cu n t.sec.lock.cells=1:=by
  have hpc:=(ht.k2 hk).2
  simp only [beq_eq_false_iff_ne] at p0 p2
  rcases hpc with h|h|h<;>first|omega|exact h
 have hgo:=nC a t k ha hal hs.1 hl.se
 have G:=go_ok (k:=k) ha hal hs.1 hl
 generalize t.go a k=x at hR hgo G
 by_cases e1:x.2.2.2.2≠0
 ·rw [if_pos e1] at hR
  have bV:(x.2.2.2.2 !=0)=true:=by simpa using e1
  refine Fn.aT bY Ay (by simp) ?_
  unfold wu SC.mk' aj.enc Task.enc
  simp only [go_sem]
  have aK:=bZ t 2 2
  have aU:=jY x.2.2.2.2
  have hJ:=ah hg (ah p0 (ah p2 bV))
  exact aZ
 rw [if_neg e1] at hR
 have bV:(x.2.2.2.2 !=0)=false:=by simpa using e1
 have G:=G (Decidable.not_not.1 e1)
 have hrl:=kJ G.l
 have hel:=kK G.l
 by_cases e2:x.2.2.1=true
 ·rw [if_pos e2] at hR
  have hdc:=aoj x.2.1 G.l.se G.cl (by have:=G.one hs.2 (by rw [G.p4 e2];omega);omega)
  refine Fn.aT bY Ay (by simp) ?_
  unfold wu SC.mk' aj.enc Task.enc
  simp only [go_sem]
  have aK:=bZ t 2 2
  have hJ:=ah hg (ah p0 (ah p2 (ah bV e2)))
  exact aZ
 rw [if_neg e2] at hR
 simp only [Bool.not_eq_true] at e2
 by_cases e3:x.2.2.2.1=true
 ·simp only [e3,Bool.not_true,Bool.false_eq_true,if_false] at hR
  have hlen:0<x.2.1.sec.aN.length:=by have:=G.one hs.2 (by rw [G.p9 e3];omega);omega
  have hre:=an9 x.2.1 G.l.se hlen
  generalize yZ x.2.1=y at hR hre
  refine Fn.aT bY Ay (by simp) ?_
  unfold wu SC.mk' aj.enc Task.enc
  simp only [go_sem]
  have aK:=bZ t 2 2
  have aU:=iH x.2.1 {aV.z with err:=6} k hrl hel
  try dsimp only at aU
  have bK:=iH x.2.1 aV.z k hrl hel
  have dV:=iH x.2.1 y k hrl hel
  have hJ:=ah hg (ah p0 (ah p2 (ah bV (ah e2 e3))))
  exact aZ
 ·simp only [Bool.not_eq_true] at e3
  simp only [e3,Bool.not_false,if_true] at hR
  refine Fn.aT bY Ay (by simp) ?_
  unfold wu SC.mk' aj.enc Task.enc
  simp only [go_sem]
  have aK:=bZ t 2 2
  have hJ:=ah hg (ah p0 (ah p2 (ah bV (ah e2 e3))))
  exact aZ
end Go.Eng
