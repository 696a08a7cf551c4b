/-
  Part of a proof: lemmas and definitions of this work.
  No condition.
-/
import Derived.Test.YtmfankbjapjjiaaGreatA08
import Derived.Test.YtmfankbjapjjiaaGreatA29
import Derived.Test.YtmfankbjapjjiaaGreatA32
import Derived.Test.YtmfankbjapjjiaaGreatA33
import Derived.Test.YtmfankbjapjjiaaGreatA34
set_option linter.all false
set_option maxRecDepth 100000
set_option maxHeartbeats 8000000
namespace Go.Eng
open Go Go.Proofs
attribute [local go_sem] aj.enc av.enc Task.enc Ev.enc bE.enc aW.enc cB.enc Dead.enc Dir.enc ak.enc Walk.enc aU.enc aI.enc bN.enc Setup.enc aS dX dY List.length_map
abbrev Kr (p:qZ):AV:= .aG [.agg p.1.enc,.agg p.2.1.enc,.sl 10 (p.2.2.map Ev.enc)]
theorem wq (n:Int):IntKind.i64.wrap ((IntKind.i64.wrap n).tdiv 2)=(IntKind.i64.wrap n).tdiv 2:=by
 have h: -9223372036854775808<=IntKind.i64.wrap n/\IntKind.i64.wrap n<=9223372036854775807:=by rw [IntKind.wrap_i64];omega
 generalize IntKind.i64.wrap n=x at h
 have e: -9223372036854775808<=x.tdiv 2/\x.tdiv 2<=9223372036854775807:=by
  by_cases h0:0<=x
  ·rw [Int.tdiv_eq_ediv_of_nonneg h0];omega
  ·have:x= -(-x):=by omega
   rw [this,Int.neg_tdiv,Int.tdiv_eq_ediv_of_nonneg (by omega)];omega
 exact bF (by omega)
theorem D5 (a b:Int):nth (encI [a,b]) 0=[I a]:=rfl
theorem D6 (a b:Int):nth (encI [a,b]) 1=[I b]:=rfl
theorem D7 (a b:Int):(encI [a,b]).length=2:=rfl
theorem zo.num {n:Nat} {t x:Task} {d e:Bool} (g:zo n t x d e) (hp:3<=x.sec.phase):x.sec.aN.length=cu n t.sec.lock.cells:=by
 have:=(g.w.q3 hp).2
 rw [g.c] at this
 omega
theorem Xp {t:Task} (hl:t.sec.bf):(jW t).sm:=nD hl _
theorem Xq {t:Task} (hl:t.sec.bf):(lK t).sm:=nD hl _
theorem aoD (s:ak) (k:Int):(s.iG k).2.1.length<=1000:=by
 have:=s.ready.rA
 unfold ak.iG Ring.iG
 repeat' split
 all_goals simp
 all_goals omega
theorem ad1 (t:Task):Fn Tryz.prog 345 [.agg t.enc] [] (.sl 1 (encI (iM t))) [] []:=by
 generalize hR:iM t=R
 unfold iM at hR
 refine Fn.aO aju (by simp) ?_
 unfold Sw SC.mk' Task.enc
 simp only [go_sem]
 have hJ:=trivial
 repeat' first
  |(first|refine sC ?_|refine sD ?_);simp only [hJ,go_sem]
  |(first|refine bD (fun hq=> ?_) (fun hq=> ?_)|refine dS (fun hq=> ?_) (fun hq=> ?_)|refine dD (fun hq=> ?_) (fun hq=> ?_))<;>simp only [hq,hJ,go_sem]
  |refine sM ?_;simp only [ay,rv,au,get,hJ,go_sem]
  |refine bn ?_
  |fail
 all_goals clear hJ
 all_goals (simp_all [-Int.not_lt,-Int.not_le];subst hR;rfl)
theorem aoE (t:Task) (h2:t.sec.aN.length=2):Fn Tryz.prog 342 [.agg t.enc] [] (.aG [.agg (jW t).enc,.agg (lK t).enc]) [] []:=by
 have ho:=ad1 t
 have n0:=kJ (show 0<t.sec.aN.length by omega)
 have n1:=kJ (show 1<t.sec.aN.length by omega)
 generalize hR:jW t=R
 generalize hQ:lK t=Q
 unfold jW at hR
 unfold lK at hQ
 unfold iM at ho
 by_cases c:t.inv.bA<t.inv.to
 ·simp only [c,if_true] at hR hQ ho
  refine Fn.aT bS abm (by simp) ?_
  unfold MO SC.mk' Task.enc
  simp only [go_sem]
  have hJ:=ah h2 (ah n0 (ah n1 (ah @D5 (ah @D6 @D7))))
  exact aZ
 ·simp only [c,if_false] at hR hQ ho
  refine Fn.aT bS abm (by simp) ?_
  unfold MO SC.mk' Task.enc
  simp only [go_sem]
  have hJ:=ah h2 (ah n0 (ah n1 (ah @D5 (ah @D6 @D7))))
  exact aZ
theorem aoF (t:Task) (x y:ak):Fn Tryz.prog 344 [.agg t.enc,.agg x.enc,.agg y.enc] [] (.sl 8 ((placed t x y).map ak.enc)) [] []:=by
 generalize hR:placed t x y=R
 unfold placed at hR
 refine Fn.aO ajt (by simp) ?_
 unfold Sv SC.mk' Task.enc ak.enc
 simp only [go_sem]
 have hJ:=trivial
 repeat' first
  |(first|refine sC ?_|refine sD ?_|refine sZ ?_|refine sY ?_|refine sF ?_);simp only [hJ,go_sem]
  |(first|refine bD (fun hq=> ?_) (fun hq=> ?_)|refine dS (fun hq=> ?_) (fun hq=> ?_)|refine dD (fun hq=> ?_) (fun hq=> ?_))<;>simp only [hq,hJ,go_sem]
  |refine sM ?_;simp only [ay,rv,au,get,hJ,go_sem]
  |refine bn ?_
  |fail
 all_goals clear hJ
 all_goals (simp_all [-Int.not_lt,-Int.not_le];subst hR;simp [ak.enc,rv,au,get])
end Go.Eng
namespace Go.Eng
open Go Go.Proofs
attribute [local go_sem] aj.enc av.enc Task.enc Ev.enc bE.enc aW.enc cB.enc Dead.enc Dir.enc ak.enc Walk.enc aU.enc aI.enc bN.enc Setup.enc aS dX dY List.length_map
theorem aoG (t:Task) (hl:t.sec.bf) (hc:t.sec.lock.cells.length<=1000) (h1:0<t.sec.aN.length):Fn Tryz.prog 274 [.agg t.enc] [] (.aG [.agg (jV t).1.enc,.sl 10 ((jV t).2.map Ev.enc)]) [] []:=by
 by_cases h8:0<(kG {t with loaded:=0}).2.1.length
 ·generalize hR:jV t=R
  unfold jV at hR
  simp only at hR
  have hn:=kJ h1
  have hsm:=nD hl 0
  generalize dZ t.sec.aN 0=s at hR hn hsm
  by_cases c1:s.owns t.walk.next=true
  ·simp only [c1,Bool.not_true,Bool.false_eq_true,if_false] at hR
   by_cases c2:1073741824<IntKind.i64.wrap (t.sec.aJ.clock+t.inv.bC)
   ·simp only [if_pos c2] at hR
    have c2':decide (1073741824<IntKind.i64.wrap (t.sec.aJ.clock+t.inv.bC))=true:=by simpa using c2
    clear h8
    refine Fn.aT bS qN (by simp) ?_
    unfold qa SC.mk' Task.enc
    simp only [hn,ak.enc,List.length_map,go_sem]
    repeat (refine bn ?_)
    have aK:=fF t.sec
    have aV:=kH s t.walk.next hsm
    have bL:=jr {t with loaded:=0} 3
    try dsimp only at bL
    have dV:=fo {t with loaded:=3} t.sec.bg (by simp [av.bg]) hc
    try dsimp only at dV
    have hJ:=ah hn (ah c1 c2')
    exact aZ
   simp only [if_neg c2] at hR
   have htk:=Xn {t with loaded:=0} hl h1
   have hE:=aox {t with loaded:=0}
   have hL:=Xo {t with loaded:=0}
   generalize hw:(t.walk.nk s.low s.high).1=w at hR
   generalize kG {t with loaded:=0}=x at hR htk hE hL h8
   by_cases c9:0<x.2.2.length
   ·simp only [h8,c9,true_or,if_true] at hR
    rw [<-hR]
    exact aoB t hl hc h1 s hn hsm x htk hE hL h8 c1 c2 w hw c9
   ·simp only [h8,c9,true_or,if_true,if_false] at hR
    by_cases c3:w.over=true
    ·simp only [c3,if_true] at hR
     rw [<-hR]
     exact aoA t hl hc h1 s hn hsm x htk hE hL h8 c1 c2 w hw c9 c3
    ·simp only [c3,Bool.false_eq_true,if_false] at hR
     rw [<-hR]
     exact aoz t hl hc h1 s hn hsm x htk hE hL h8 c1 c2 w hw c9 (by simpa using c3)
  ·simp only [Bool.not_eq_true] at c1
   simp only [c1,Bool.not_false,if_true] at hR
   clear h8
   refine Fn.aT bS qN (by simp) ?_
   unfold qa SC.mk' Task.enc
   simp only [hn,ak.enc,List.length_map,go_sem]
   repeat (refine bn ?_)
   have aK:=fF t.sec
   have aV:=kH s t.walk.next hsm
   have bL:=fo {t with loaded:=0} t.sec.bg (by simp [av.bg]) hc
   try dsimp only at bL
   have hJ:=ah hn c1
   exact aZ
 ·exact aoy t hl hc h1 h8
theorem aoH (a:aj) (t:Task) (k:Int) {n:Nat} (ha:a.wf n) (hal:a.bf) (ht:t.wf n) (hl:t.bf) (hk:t.inv.kind=2) (hd:t.dn=false):Fn Tryz.prog 212 [.agg a.enc,.agg t.enc,I k] [] (dw (oI a t k)) [] []:=by
 generalize hR:oI a t k=R
 unfold oI at hR
 simp only at hR
 have hg:t.guard 2 2=0:=by simp [Task.guard,hd,hk]
 simp only [hg,ne_eq,not_true_eq_false,if_false] at hR
 have hdl:=NS ha
 by_cases p0:(t.pc==0)=true
 ·simp only [if_pos p0] at hR
  have hho:=adW a.dir t.inv.home hdl
  generalize ql a.dir t.inv.home=ho at hR hho
  have hsp:=amC a.dir ho hdl
  generalize a.dir.span ho=sp at hR hsp
  generalize hwb:(Walk.begin sp.1.low).1=wb at hR
  have hse:=vg {t with dir:=a.dir,slot:=ho,walk:=wb} [ho] 1 (by simp)
  generalize Task.eX {t with dir:=a.dir,slot:=ho,walk:=wb} [ho] 1=t1 at hR hse
  refine Fn.aT bY yj (by simp) ?_
  unfold wu SC.mk' aj.enc Task.enc
  simp only [go_sem]
  have aK:=bZ t 2 2
  have aV:=NM a
  have bL:=adP sp.1.low
  have hJ:=ah hg (ah p0 (ah hwb Span.enc.eq_1))
  exact aZ
 simp only [if_neg p0] at hR
 simp only [Bool.not_eq_true] at p0
 by_cases p2:(t.pc==2)=true
 ·simp only [if_pos p2] at hR
  refine Fn.aT bY yj (by simp) ?_
  unfold wu SC.mk' aj.enc Task.enc
  simp only [go_sem]
  have aK:=bZ t 2 2
  have aV:=Xm a t t.walk.next 1 hdl
  have hJ:=ah hg (ah p0 p2)
  exact aZ
 simp only [if_neg p2] at hR
 simp only [Bool.not_eq_true] at p2
 have hs:t.sec.wf n/\cu n t.sec.lock.cells=1:=by
  have hpc:=(ht.k2 hk).2
  simp only [beq_eq_false_iff_ne] at p0 p2
  rcases hpc with h|h|h<;>first|omega|exact h
 have hgo:=nE a t k ha hal hs.1 hl.se
 have G:=go_ok (k:=k) ha hal hs.1 hl
 generalize t.go a k=x at hR hgo G
 by_cases e1:x.2.2.2.2≠0
 ·rw [if_pos e1] at hR
  have bV:(x.2.2.2.2 !=0)=true:=by simpa using e1
  refine Fn.aT bY yj (by simp) ?_
  unfold wu SC.mk' aj.enc Task.enc
  simp only [go_sem]
  have aK:=bZ t 2 2
  have aV:=jY x.2.2.2.2
  have hJ:=ah hg (ah p0 (ah p2 bV))
  exact aZ
 rw [if_neg e1] at hR
 have bV:(x.2.2.2.2 !=0)=false:=by simpa using e1
 have G:=G (Decidable.not_not.1 e1)
 have hrl:=kK G.l
 have hel:=kL G.l
 by_cases e2:x.2.2.1=true
 ·rw [if_pos e2] at hR
  have hdc:=aoG x.2.1 G.l.se G.cl (by have:=G.one hs.2 (by rw [G.p4 e2];omega);omega)
  refine Fn.aT bY yj (by simp) ?_
  unfold wu SC.mk' aj.enc Task.enc
  simp only [go_sem]
  have aK:=bZ t 2 2
  have hJ:=ah hg (ah p0 (ah p2 (ah bV e2)))
  exact aZ
 rw [if_neg e2] at hR
 simp only [Bool.not_eq_true] at e2
 by_cases e3:x.2.2.2.1=true
 ·simp only [e3,Bool.not_true,Bool.false_eq_true,if_false] at hR
  have hlen:0<x.2.1.sec.aN.length:=by have:=G.one hs.2 (by rw [G.p9 e3];omega);omega
  have hre:=aow x.2.1 G.l.se hlen
  generalize yU x.2.1=y at hR hre
  refine Fn.aT bY yj (by simp) ?_
  unfold wu SC.mk' aj.enc Task.enc
  simp only [go_sem]
  have aK:=bZ t 2 2
  have aV:=iI x.2.1 {aU.z with err:=6} k hrl hel
  try dsimp only at aV
  have bL:=iI x.2.1 aU.z k hrl hel
  have dV:=iI x.2.1 y k hrl hel
  have hJ:=ah hg (ah p0 (ah p2 (ah bV (ah e2 e3))))
  exact aZ
 ·simp only [Bool.not_eq_true] at e3
  simp only [e3,Bool.not_false,if_true] at hR
  refine Fn.aT bY yj (by simp) ?_
  unfold wu SC.mk' aj.enc Task.enc
  simp only [go_sem]
  have aK:=bZ t 2 2
  have hJ:=ah hg (ah p0 (ah p2 (ah bV (ah e2 e3))))
  exact aZ
end Go.Eng
