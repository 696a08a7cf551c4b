/-
  Part of a proof: lemmas and definitions of this work.
  No condition.
-/
import Derived.Test.YthhjbngoibmpgaaGreatA08
import Derived.Test.YthhjbngoibmpgaaGreatA30
import Derived.Test.YthhjbngoibmpgaaGreatA35
set_option linter.all false
set_option maxRecDepth 100000
set_option maxHeartbeats 8000000
namespace Go.Eng
open Go Go.Proofs
attribute [local go_sem] aj.enc av.enc Task.enc Ev.enc bD.enc bf.enc cB.enc Dead.enc Dir.enc ak.enc Walk.enc aV.enc aJ.enc bL.enc Setup.enc aS dY dZ List.length_map
theorem NZ (t:Task) (hl:t.sec.aW):Fn Tryz.prog 324 [.agg t.enc] [] (DW (oP t)) [] []:=by
 generalize hR:oP t=R
 unfold oP at hR
 simp only at hR
 have hdl:=hl.de
 by_cases c0:t.sec.aN.length=0
 ·simp only [if_pos c0] at hR
  have hc:=an5 t.sec.dead t.sec.aI.epoch (by omega)
  generalize t.sec.dead.clean t.sec.aI.epoch=x at hR hc
  refine Fn.aT bR Db (by simp) ?_
  unfold yB SC.mk' Task.enc
  simp only [go_sem]
  have aK:=fF t.sec
  have hJ:=c0
  exact aZ
 simp only [if_neg c0] at hR
 have c0':((t.sec.aN.length:Int)==0)=false:=by simpa using c0
 have hn:=kI (show 0<t.sec.aN.length by omega)
 have hsm:=nA hl 0
 have hlt:=kY hl 0
 generalize dW t.sec.aN 0=s at hR hn hsm hlt
 by_cases c1:s.live=true
 ·simp only [c1,Bool.not_true,Bool.false_eq_true,if_false] at hR
  by_cases c2:(t.inv.kind==13)=true
  ·simp only [if_pos c2] at hR
   have hc:=al9 s t.sec.aI.epoch hsm
   generalize s.clean t.sec.aI.epoch=x at hR hc
   refine Fn.aT bR Db (by simp) ?_
   unfold yB SC.mk' Task.enc
   simp only [go_sem]
   have aK:=fF t.sec
   have hJ:=ah hn (ah c0' (ah c1 c2))
   exact aZ
  simp only [if_neg c2] at hR
  simp only [Bool.not_eq_true] at c2
  have hx:=acF s t.sec.aI.clock t.sec.aI.epoch t.setup.limit hsm
  have hxl:=adl s t.sec.aI.clock t.sec.aI.epoch t.setup.limit
  generalize s.expire t.sec.aI.clock t.sec.aI.epoch t.setup.limit=x at hR hx hxl
  by_cases c3:x.2.1.length=0
  ·simp only [if_pos c3] at hR
   have c3':((x.2.1.length:Int)==0)=true:=by simpa using c3
   refine Fn.aT bR Db (by simp) ?_
   unfold yB SC.mk' Task.enc
   simp only [go_sem]
   have aK:=fF t.sec
   have hJ:=ah hn (ah c0' (ah c1 (ah c2 c3)))
   exact aZ
  ·simp only [if_neg c3] at hR
   have c3':((x.2.1.length:Int)==0)=false:=by simpa using c3
   refine Fn.aT bR Db (by simp) ?_
   unfold yB SC.mk' Task.enc
   simp only [go_sem]
   have hL:x.2.1.length<=13:=hxl
   have mx:∀ j:Nat,j<=10000->j<=maxLen:=fun j h=>Nat.le_trans h (by decide)
   have aK:=fF t.sec
   have aU:=ic t 10
   have hJ:=ah hn (ah c0' (ah c1 (ah c2 c3')))
   repeat' first
    |(first|refine sC ?_|refine sD ?_|refine sZ ?_|refine sY ?_|refine sF ?_);simp only [hJ,aS,go_sem]
    |(first|refine bC (fun hq=> ?_) (fun hq=> ?_)|refine dR (fun hq=> ?_) (fun hq=> ?_)|refine dD (fun hq=> ?_) (fun hq=> ?_))<;>simp only [hq,hJ,aS,go_sem]
    |refine sM ?_;simp only [ay,rv,au,get,hJ,aS,go_sem]
    |refine bn ?_
    |fail
   all_goals clear aK aU hJ
   refine go_loop (fun j:{j:Nat // j<=x.2.1.length}=>⟨5000,[(2,.ptr 16 0),(3,.ptr 24 0),(4,Nl),(5,.ptr 64 0),(14,.ptr 376 0),(15,.sl 1 (encI x.2.1)),(17,.ptr 448 0),(18,I j.1)],[(448,.box [I t.sec.aI.stamp,I t.number,I t.entry,I 10,I t.sec.aI.clock,I t.sec.aI.epoch,I 0,.own 4000 4 0 j.1,I 0,I 0]),(4000,.row 233 4 ((fH (x.2.1.take j.1)).map cK.enc)),(376,.box [Bo x.1.live,I x.1.low,I x.1.high,.sl 7 (x.1.ready.cells.map ai.enc),I x.1.ready.head,I x.1.ready.size,.sl 8 (x.1.aR.l.map Lease.enc),.sl 2 (x.1.aR.heap.map Due.enc)]),(64,.box [.sl 8 (t.sec.bg.aN.map ak.enc),I t.sec.bg.dead.cap,.sl 7 (t.sec.bg.dead.l.map ai.enc),.sl 1 (encI t.sec.bg.order),.sl 7 (t.sec.bg.carry.map ai.enc),.sl 4 (t.sec.bg.dO.map bL.enc)]),(16,.box [Nl,I 0,Nl,Nl,Nl,Nl]),(24,.box [I 0,I 0,Nl,Nl,I 0,I 0,I 0])]⟩) (fun j=>x.2.1.length - j.1) ⟨0,by omega⟩ (wk [(448,448),(376,376),(64,64),(16,16),(24,24)] [4000]) ?_
   rintro ⟨j,hj⟩ B hB
   simp only [go_sem]
   by_cases e1:j<x.2.1.length
   ·have e2:decide ((j:Int)<(x.2.1.length:Int))=true:=by simp;omega
    have hg:nth (encI x.2.1) j=[I (gI x.2.1 j)]:=bS (fun z=>[I z]) 0 e1
    have hw:=bT (show j<=100000 by omega)
    have hm1:=mx (j+1) (by omega)
    have e3:List.take j ((fH (x.2.1.take j)).map cK.enc)=(fH (x.2.1.take j)).map cK.enc:=bA (by simp;omega)
    have e4:=NS x.2.1 j e1
    have e5:((fH (x.2.1.take j)).map cK.enc).length=j:=by simp;omega
    simp only [e2,hg,hw,e3,e4,e5,aS,Int.toNat_natCast,go_sem]
    repeat (refine bn ?_)
    exact hB _ ⟨j+1,by omega⟩ (by simp only;omega) (wk [(448,448),(376,376),(64,64),(16,16),(24,24),(4000,5096)] [])
   ·have e2:decide ((j:Int)<(x.2.1.length:Int))=false:=by simp;omega
    have e3:List.take j ((fH (x.2.1.take j)).map cK.enc)=(fH x.2.1).map cK.enc:=by
     rw [bA (by simp;omega),bA (by omega)]
    clear hB
    simp only [e2,e3,aS,go_sem]
    have aK:=fF t.sec
    have hJ:=e3
    repeat' first
     |(first|refine sC ?_|refine sD ?_|refine sZ ?_|refine sY ?_|refine sF ?_);simp only [hJ,aS,go_sem]
     |(first|refine bC (fun hq=> ?_) (fun hq=> ?_)|refine dR (fun hq=> ?_) (fun hq=> ?_)|refine dD (fun hq=> ?_) (fun hq=> ?_))<;>simp only [hq,hJ,aS,go_sem]
     |refine sM ?_;simp only [ay,rv,au,get,hJ,aS,go_sem]
     |refine bn ?_
     |fail
    all_goals clear aK hJ
    all_goals (subst hR;first|rfl|simp_all [rv,au,get,Task.jS,cK.enc,encI,Ev.z,av.enter,aj.enc,av.enc,Task.enc,Ev.enc,bD.enc,bf.enc,cB.enc,Dead.enc,Dir.enc,ak.enc,Walk.enc,aV.enc,aJ.enc,-Int.not_lt,-Int.not_le]<;>try rfl)
 ·simp only [Bool.not_eq_true] at c1
  simp only [c1,Bool.not_false,if_true] at hR
  refine Fn.aT bR Db (by simp) ?_
  unfold yB SC.mk' Task.enc
  simp only [go_sem]
  have aK:=fF t.sec
  have aU:=fF t.sec
  have hJ:=ah hn (ah c0' c1)
  exact aZ
end Go.Eng
