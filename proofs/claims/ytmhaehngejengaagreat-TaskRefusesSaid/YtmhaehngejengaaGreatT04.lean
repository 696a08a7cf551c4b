/-
  Part of a proof: lemmas and definitions of this work.
  No condition.
-/
import Derived.Test.YtmhaehngejengaaGreatA12
import Derived.Test.YtmhaehngejengaaGreatA31
set_option linter.all false
set_option maxRecDepth 100000
set_option maxHeartbeats 8000000
namespace Go.Eng
open Go Go.Proofs
attribute [local go_sem] ak.enc ax.enc Task.enc Ev.enc bG.enc bf.enc dG.enc Dead.enc Dir.enc aj.enc Walk.enc aV.enc aH.enc bT.enc Setup.enc aS fD fE List.length_map
abbrev F8 (p:tV):AV:= .aF [.agg p.1.enc,.agg p.2.1.enc,.sl 10 (p.2.2.map Ev.enc)]
theorem wq (n:Int):IntKind.i64.wrap ((IntKind.i64.wrap n).tdiv 2)=(IntKind.i64.wrap n).tdiv 2:=by
 have h: -9223372036854775808≤IntKind.i64.wrap n∧IntKind.i64.wrap n≤9223372036854775807:=by rw [IntKind.wrap_i64];omega
 generalize IntKind.i64.wrap n=x at h
 have e: -9223372036854775808≤x.tdiv 2∧x.tdiv 2≤9223372036854775807:=by
  by_cases h0:0≤x
  ·rw [Int.tdiv_eq_ediv_of_nonneg h0];omega
  ·have:x= -(-x):=by omega
   rw [this,Int.neg_tdiv,Int.tdiv_eq_ediv_of_nonneg (by omega)];omega
 exact bH (by omega)
theorem DJ (a b:Int):nth (encI [a,b]) 0=[I a]:=rfl
theorem DK (a b:Int):nth (encI [a,b]) 1=[I b]:=rfl
theorem DL (a b:Int):(encI [a,b]).length=2:=rfl
theorem Bz.num {n:Nat} {t x:Task} {d e:Bool} (g:Bz n t x d e) (hp:3≤x.sec.phase):x.sec.shards.length=dB n t.sec.lock.cells:=by
 have:=(g.w.q3 hp).2
 rw [g.c] at this
 omega
theorem X7 {t:Task} (hl:t.sec.aW):(kP t).sm:=oV hl _
theorem X8 {t:Task} (hl:t.sec.aW):(mO t).sm:=oV hl _
theorem apF (s:aj) (k:Int):(s.jg k).2.1.length≤1000:=by
 have:=s.ready.ug
 unfold aj.jg Ring.jg
 repeat' split
 all_goals simp
 all_goals omega
theorem adn (t:Task):Fn Tryz.prog 434 [.agg t.enc] [] (.sl 1 (encI (jm t))) [] []:=by
 generalize hR:jm t=R
 unfold jm at hR
 refine Fn.aN ajK (by simp) ?_
 unfold UA SC.mk' Task.enc
 simp only [go_sem]
 have hJ:=trivial
 repeat' first
  |(first|refine sC ?_|refine sD ?_);simp only [hJ,go_sem]
  |(first|refine bF (fun hq=> ?_) (fun hq=> ?_)|refine dY (fun hq=> ?_) (fun hq=> ?_)|refine dL (fun hq=> ?_) (fun hq=> ?_))<;>simp only [hq,hJ,go_sem]
  |refine sM ?_;simp only [ay,rv,au,get,hJ,go_sem]
  |refine bn ?_
  |fail
 all_goals clear hJ
 all_goals (simp_all [-Int.not_lt,-Int.not_le];subst hR;rfl)
theorem apG (t:Task) (h2:t.sec.shards.length=2):Fn Tryz.prog 431 [.agg t.enc] [] (.aF [.agg (kP t).enc,.agg (mO t).enc]) [] []:=by
 have ho:=adn t
 have n0:=lI (show 0<t.sec.shards.length by omega)
 have n1:=lI (show 1<t.sec.shards.length by omega)
 generalize hR:kP t=R
 generalize hQ:mO t=Q
 unfold kP at hR
 unfold mO at hQ
 unfold jm at ho
 by_cases c:t.inv.bC<t.inv.to
 ·simp only [c,if_true] at hR hQ ho
  refine Fn.aT bY aaX (by simp) ?_
  unfold NM SC.mk' Task.enc
  simp only [go_sem]
  have hJ:=ah h2 (ah n0 (ah n1 (ah @DJ (ah @DK @DL))))
  exact aZ
 ·simp only [c,if_false] at hR hQ ho
  refine Fn.aT bY aaX (by simp) ?_
  unfold NM SC.mk' Task.enc
  simp only [go_sem]
  have hJ:=ah h2 (ah n0 (ah n1 (ah @DJ (ah @DK @DL))))
  exact aZ
theorem apH (t:Task) (x y:aj):Fn Tryz.prog 433 [.agg t.enc,.agg x.enc,.agg y.enc] [] (.sl 8 ((placed t x y).map aj.enc)) [] []:=by
 generalize hR:placed t x y=R
 unfold placed at hR
 refine Fn.aN ajJ (by simp) ?_
 unfold Uz SC.mk' Task.enc aj.enc
 simp only [go_sem]
 have hJ:=trivial
 repeat' first
  |(first|refine sC ?_|refine sD ?_|refine sZ ?_|refine sY ?_|refine sF ?_);simp only [hJ,go_sem]
  |(first|refine bF (fun hq=> ?_) (fun hq=> ?_)|refine dY (fun hq=> ?_) (fun hq=> ?_)|refine dL (fun hq=> ?_) (fun hq=> ?_))<;>simp only [hq,hJ,go_sem]
  |refine sM ?_;simp only [ay,rv,au,get,hJ,go_sem]
  |refine bn ?_
  |fail
 all_goals clear hJ
 all_goals (simp_all [-Int.not_lt,-Int.not_le];subst hR;simp [aj.enc,rv,au,get])
end Go.Eng
