/-
  Part of a proof: lemmas and definitions of this work.
  No condition.
-/
import Derived.Test.YthhjbngoibmpgaaGreatA08
import Derived.Test.YthhjbngoibmpgaaGreatA27
set_option linter.all false
set_option maxRecDepth 100000
set_option maxHeartbeats 8000000
namespace Go.Eng
open Go Go.Proofs
attribute [local go_sem] aj.enc av.enc Task.enc Ev.enc bD.enc bf.enc cB.enc Dead.enc Dir.enc ak.enc Walk.enc aV.enc aJ.enc bL.enc Setup.enc aS dY dZ List.length_map
theorem kI {l:List ak} {i:Nat} (h:i<l.length):nth (l.map ak.enc) i=ak.enc (dW l i):=bS ak.enc ak.z h
theorem anF {l:List ByteArray} {i:Nat} (h:i<l.length):nth (encS l) i=[.v (.string (gB l i))]:=aa6 h
theorem anG (t:Task) (hl:t.sec.aW) (hc:t.sec.lock.cells.length<=1000) (h1:t.sec.aN.length=1) (he:0<=t.entry/\t.entry<t.inv.bodies.length):Fn Tryz.prog 312 [.agg t.enc] [] (.aF [.agg (l8 t).1.enc,.sl 10 ((l8 t).2.map Ev.enc)]) [] []:=by
 generalize hR:l8 t=R
 unfold l8 at hR
 simp only at hR
 have hn:=kI (show 0<t.sec.aN.length by omega)
 have hsm:=nA hl 0
 have hb:=anF (l:=t.inv.bodies) (i:=t.entry.toNat) (by omega)
 generalize dW t.sec.aN 0=s at hR hn hsm
 generalize gB t.inv.bodies t.entry.toNat=b at hR hb
 refine Fn.aT bR Uf (by simp) ?_
 unfold Ue SC.mk' Task.enc
 simp only [hn,ak.enc,List.length_map,go_sem]
 repeat (refine bn ?_)
 by_cases c1:s.owns t.walk.next=true
 ·simp only [c1,Bool.not_true,Bool.false_eq_true,if_false] at hR
  by_cases c2:(s.stored==(s.ready.cells.length:Int))=true
  ·simp only [if_pos c2] at hR
   generalize hw:(t.walk.ng s.low s.high).1=w at hR
   by_cases c3:w.over=true
   ·simp only [c3,Bool.not_true,Bool.false_eq_true,if_false] at hR
    have aK:=fF t.sec
    have aU:=kG s t.walk.next hsm
    have bK:=nu s hsm
    have dV:=tK t.walk s.low s.high
    have fQ:=jC w
    have hJ:=ah c1 (ah c2 (ah c3 hw))
    repeat' first
     |(first|refine aQ (jm {t with loaded:=0} 2) rfl rfl ?_|refine bX (jm {t with loaded:=0} 2) rfl rfl ?_|refine sZ ?_ (jm {t with loaded:=0} 2)|refine sY ?_ (jm {t with loaded:=0} 2));simp only [hJ,go_sem]
     |(first|refine aQ (fq {t with loaded:=2,walk:=w} t.sec.bg (by simp [av.bg]) hc) rfl rfl ?_|refine bX (fq {t with loaded:=2,walk:=w} t.sec.bg (by simp [av.bg]) hc) rfl rfl ?_|refine sZ ?_ (fq {t with loaded:=2,walk:=w} t.sec.bg (by simp [av.bg]) hc)|refine sY ?_ (fq {t with loaded:=2,walk:=w} t.sec.bg (by simp [av.bg]) hc));simp only [hJ,go_sem]
     |(first|refine sC ?_|refine sD ?_|refine sZ ?_|refine sY ?_|refine sF ?_);simp only [hJ,go_sem]
     |(first|refine bC (fun hq=> ?_) (fun hq=> ?_)|refine dR (fun hq=> ?_) (fun hq=> ?_)|refine dD (fun hq=> ?_) (fun hq=> ?_))<;>simp only [hq,hJ,go_sem]
     |refine sM ?_;simp only [ay,rv,au,get,hJ,go_sem]
     |refine bn ?_
     |fail
    all_goals clear aK aU bK dV fQ hJ
    all_goals (subst hR;first|rfl|simp_all [rv,au,get,Task.jS,cK.enc,av.enter,aj.enc,av.enc,Task.enc,Ev.enc,bD.enc,bf.enc,cB.enc,Dead.enc,Dir.enc,ak.enc,Walk.enc,aV.enc,aJ.enc,-Int.not_lt,-Int.not_le]<;>try rfl)
   ·simp only [Bool.not_eq_true] at c3
    simp only [c3,Bool.not_false,if_true] at hR
    have aK:=fF t.sec
    have aU:=kG s t.walk.next hsm
    have bK:=nu s hsm
    have dV:=tK t.walk s.low s.high
    have fQ:=jC w
    have hJ:=ah c1 (ah c2 (ah c3 hw))
    repeat' first
     |(first|refine aQ (jm {t with loaded:=0} 2) rfl rfl ?_|refine bX (jm {t with loaded:=0} 2) rfl rfl ?_|refine sZ ?_ (jm {t with loaded:=0} 2)|refine sY ?_ (jm {t with loaded:=0} 2));simp only [hJ,go_sem]
     |(first|refine aQ (fq {t with loaded:=0,walk:=w} t.sec.bg (by simp [av.bg]) hc) rfl rfl ?_|refine bX (fq {t with loaded:=0,walk:=w} t.sec.bg (by simp [av.bg]) hc) rfl rfl ?_|refine sZ ?_ (fq {t with loaded:=0,walk:=w} t.sec.bg (by simp [av.bg]) hc)|refine sY ?_ (fq {t with loaded:=0,walk:=w} t.sec.bg (by simp [av.bg]) hc));simp only [hJ,go_sem]
     |(first|refine sC ?_|refine sD ?_|refine sZ ?_|refine sY ?_|refine sF ?_);simp only [hJ,go_sem]
     |(first|refine bC (fun hq=> ?_) (fun hq=> ?_)|refine dR (fun hq=> ?_) (fun hq=> ?_)|refine dD (fun hq=> ?_) (fun hq=> ?_))<;>simp only [hq,hJ,go_sem]
     |refine sM ?_;simp only [ay,rv,au,get,hJ,go_sem]
     |refine bn ?_
     |fail
    all_goals clear aK aU bK dV fQ hJ
    all_goals (subst hR;first|rfl|simp_all [rv,au,get,Task.jS,cK.enc,av.enter,aj.enc,av.enc,Task.enc,Ev.enc,bD.enc,bf.enc,cB.enc,Dead.enc,Dir.enc,ak.enc,Walk.enc,aV.enc,aJ.enc,-Int.not_lt,-Int.not_le]<;>try rfl)
  ·simp only [if_neg c2] at hR
   simp only [Bool.not_eq_true] at c2
   generalize hr:Df (yF t.id) s.low s.high=ro at hR
   generalize hm:(ai.new t.id ro t.sec.aI.epoch t.sec.aI.clock b).1=m at hR
   have aK:=fF t.sec
   have aU:=kG s t.walk.next hsm
   have bK:=nu s hsm
   have dV:=abf t.id
   have fQ:=aa9 (yF t.id) s.low s.high
   have mR:=al2 t.id ro t.sec.aI.epoch t.sec.aI.clock b
   have DV:=acC s m hsm
   have hJ:=ah c1 (ah c2 (ah hr (ah hm hb)))
   repeat' first
    |(first|refine aQ (jm {t with loaded:=0} 2) rfl rfl ?_|refine bX (jm {t with loaded:=0} 2) rfl rfl ?_|refine sZ ?_ (jm {t with loaded:=0} 2)|refine sY ?_ (jm {t with loaded:=0} 2));simp only [hJ,ai.enc,go_sem]
    |(first|refine aQ (fq {t with loaded:=1} {t.sec.bg with aN:=[(s.put m).1],order:=[0]} (by simp) hc) rfl rfl ?_|refine bX (fq {t with loaded:=1} {t.sec.bg with aN:=[(s.put m).1],order:=[0]} (by simp) hc) rfl rfl ?_|refine sZ ?_ (fq {t with loaded:=1} {t.sec.bg with aN:=[(s.put m).1],order:=[0]} (by simp) hc)|refine sY ?_ (fq {t with loaded:=1} {t.sec.bg with aN:=[(s.put m).1],order:=[0]} (by simp) hc));simp only [hJ,ai.enc,go_sem]
    |(first|refine sC ?_|refine sD ?_|refine sZ ?_|refine sY ?_|refine sF ?_);simp only [hJ,ai.enc,go_sem]
    |(first|refine bC (fun hq=> ?_) (fun hq=> ?_)|refine dR (fun hq=> ?_) (fun hq=> ?_)|refine dD (fun hq=> ?_) (fun hq=> ?_))<;>simp only [hq,hJ,ai.enc,go_sem]
    |refine sM ?_;simp only [ay,rv,au,get,hJ,ai.enc,go_sem]
    |refine bn ?_
    |fail
   all_goals clear aK aU bK dV fQ mR DV hJ
   all_goals (subst hR;first|rfl|simp_all [rv,au,get,Task.jS,cK.enc,ai.enc,av.enter,aj.enc,av.enc,Task.enc,Ev.enc,bD.enc,bf.enc,cB.enc,Dead.enc,Dir.enc,ak.enc,Walk.enc,aV.enc,aJ.enc,-Int.not_lt,-Int.not_le]<;>try rfl)
 ·simp only [Bool.not_eq_true] at c1
  simp only [c1,Bool.not_false,if_true] at hR
  have aK:=fF t.sec
  have aU:=kG s t.walk.next hsm
  have bK:=fq {t with loaded:=0} t.sec.bg (by simp [av.bg]) hc
  try dsimp only at bK
  have hJ:=c1
  exact aZ
end Go.Eng
