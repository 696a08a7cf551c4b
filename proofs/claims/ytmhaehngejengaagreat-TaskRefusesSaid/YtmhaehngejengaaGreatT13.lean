/-
  Part of a proof: lemmas and definitions of this work.
  No condition.
-/
import Derived.Test.YtmhaehngejengaaGreatA12
import Derived.Test.YtmhaehngejengaaGreatA32
import Derived.Test.YtmhaehngejengaaGreatT04
set_option linter.all false
set_option maxRecDepth 100000
set_option maxHeartbeats 8000000
namespace Go.Eng
open Go Go.Proofs
attribute [local go_sem] ak.enc ax.enc Task.enc Ev.enc bG.enc bf.enc dG.enc Dead.enc Dir.enc aj.enc Walk.enc aV.enc aH.enc bT.enc Setup.enc aS fD fE List.length_map
theorem O8 (t:Task) (hl:t.sec.aW):Fn Tryz.prog 372 [.agg t.enc] [] (F8 (qB t)) [] []:=by
 generalize hR:qB t=R
 unfold qB at hR
 simp only at hR
 have hdl:=hl.de
 by_cases c0:t.sec.shards.length=0
 ·simp only [if_pos c0] at hR
  have hc:=apv t.sec.dead t.sec.aG.epoch (by omega)
  generalize t.sec.dead.clean t.sec.aG.epoch=x at hR hc
  refine Fn.aT bY Fe (by simp) ?_
  unfold Ad SC.mk' Task.enc
  simp only [go_sem]
  have aI:=gQ t.sec
  have hJ:=c0
  exact aZ
 simp only [if_neg c0] at hR
 have c0':((t.sec.shards.length:Int)==0)=false:=by simpa using c0
 have hn:=lI (show 0<t.sec.shards.length by omega)
 have hsm:=oV hl 0
 have hlt:=mr hl 0
 generalize eH t.sec.shards 0=s at hR hn hsm hlt
 by_cases c1:s.live=true
 ·simp only [c1,Bool.not_true,Bool.false_eq_true,if_false] at hR
  by_cases c2:(t.inv.kind==13)=true
  ·simp only [if_pos c2] at hR
   have hc:=anD s t.sec.aG.epoch hsm
   generalize s.clean t.sec.aG.epoch=x at hR hc
   refine Fn.aT bY Fe (by simp) ?_
   unfold Ad SC.mk' Task.enc
   simp only [go_sem]
   have aI:=gQ t.sec
   have hJ:=ah hn (ah c0' (ah c1 c2))
   exact aZ
  simp only [if_neg c2] at hR
  simp only [Bool.not_eq_true] at c2
  have hx:=acC s t.sec.aG.clock t.sec.aG.epoch t.setup.limit hsm
  have hxl:=adh s t.sec.aG.clock t.sec.aG.epoch t.setup.limit
  generalize s.expire t.sec.aG.clock t.sec.aG.epoch t.setup.limit=x at hR hx hxl
  by_cases c3:x.2.1.length=0
  ·simp only [if_pos c3] at hR
   have c3':((x.2.1.length:Int)==0)=true:=by simpa using c3
   refine Fn.aT bY Fe (by simp) ?_
   unfold Ad SC.mk' Task.enc
   simp only [go_sem]
   have aI:=gQ t.sec
   have hJ:=ah hn (ah c0' (ah c1 (ah c2 c3)))
   exact aZ
  ·simp only [if_neg c3] at hR
   have c3':((x.2.1.length:Int)==0)=false:=by simpa using c3
   refine Fn.aT bY Fe (by simp) ?_
   unfold Ad SC.mk' Task.enc
   simp only [go_sem]
   have hL:x.2.1.length≤13:=hxl
   have mx:∀ j:Nat,j≤10000→j≤maxLen:=fun j h=>Nat.le_trans h (by decide)
   have aI:=gQ t.sec
   have aU:=iW t 10
   have hJ:=ah hn (ah c0' (ah c1 (ah c2 c3')))
   repeat' first
    |(first|refine sC ?_|refine sD ?_|refine sZ ?_|refine sY ?_|refine sF ?_);simp only [hJ,aS,go_sem]
    |(first|refine bF (fun hq=> ?_) (fun hq=> ?_)|refine dY (fun hq=> ?_) (fun hq=> ?_)|refine dL (fun hq=> ?_) (fun hq=> ?_))<;>simp only [hq,hJ,aS,go_sem]
    |refine sM ?_;simp only [ay,rv,au,get,hJ,aS,go_sem]
    |refine bn ?_
    |fail
   all_goals clear aI aU hJ
   refine go_loop (fun j:{j:Nat // j≤x.2.1.length}=>⟨5000,[(2,.ptr 16 0),(3,.ptr 24 0),(4,Nl),(5,.ptr 64 0),(14,.ptr 376 0),(15,.sl 1 (encI x.2.1)),(17,.ptr 448 0),(18,I j.1)],[(448,.box [I t.sec.aG.stamp,I t.number,I t.entry,I 10,I t.sec.aG.clock,I t.sec.aG.epoch,I 0,.own 4000 4 0 j.1,I 0,I 0]),(4000,.row 95 4 ((gW (x.2.1.take j.1)).map dD.enc)),(376,.box [Bo x.1.live,I x.1.low,I x.1.high,.sl 7 (x.1.ready.cells.map ai.enc),I x.1.ready.head,I x.1.ready.size,.sl 8 (x.1.aP.l.map Lease.enc),.sl 2 (x.1.aP.heap.map Due.enc)]),(64,.box [.sl 8 (t.sec.bg.shards.map aj.enc),I t.sec.bg.dead.cap,.sl 7 (t.sec.bg.dead.l.map ai.enc),.sl 1 (encI t.sec.bg.order),.sl 7 (t.sec.bg.carry.map ai.enc),.sl 4 (t.sec.bg.dS.map bT.enc)]),(16,.box [Nl,I 0,Nl,Nl,Nl,Nl]),(24,.box [I 0,I 0,Nl,Nl,I 0,I 0,I 0])]⟩) (fun j=>x.2.1.length - j.1) ⟨0,by omega⟩ (wk [(448,448),(376,376),(64,64),(16,16),(24,24)] [4000]) ?_
   rintro ⟨j,hj⟩ B hB
   simp only [go_sem]
   by_cases e1:j<x.2.1.length
   ·have e2:decide ((j:Int)<(x.2.1.length:Int))=true:=by simp;omega
    have hg:nth (encI x.2.1) j=[I (gI x.2.1 j)]:=bZ (fun z=>[I z]) 0 e1
    have hw:=cZ (show j≤100000 by omega)
    have hm1:=mx (j+1) (by omega)
    have e3:List.take j ((gW (x.2.1.take j)).map dD.enc)=(gW (x.2.1.take j)).map dD.enc:=bD (by simp;omega)
    have e4:=O3 x.2.1 j e1
    have e5:((gW (x.2.1.take j)).map dD.enc).length=j:=by simp;omega
    simp only [e2,hg,hw,e3,e4,e5,aS,Int.toNat_natCast,go_sem]
    repeat (refine bn ?_)
    exact hB _ ⟨j+1,by omega⟩ (by simp only;omega) (wk [(448,448),(376,376),(64,64),(16,16),(24,24),(4000,5096)] [])
   ·have e2:decide ((j:Int)<(x.2.1.length:Int))=false:=by simp;omega
    have e3:List.take j ((gW (x.2.1.take j)).map dD.enc)=(gW x.2.1).map dD.enc:=by
     rw [bD (by simp;omega),bD (by omega)]
    clear hB
    simp only [e2,e3,aS,go_sem]
    have aI:=gQ t.sec
    have hJ:=e3
    repeat' first
     |(first|refine sC ?_|refine sD ?_|refine sZ ?_|refine sY ?_|refine sF ?_);simp only [hJ,aS,go_sem]
     |(first|refine bF (fun hq=> ?_) (fun hq=> ?_)|refine dY (fun hq=> ?_) (fun hq=> ?_)|refine dL (fun hq=> ?_) (fun hq=> ?_))<;>simp only [hq,hJ,aS,go_sem]
     |refine sM ?_;simp only [ay,rv,au,get,hJ,aS,go_sem]
     |refine bn ?_
     |fail
    all_goals clear aI hJ
    all_goals (subst hR;first|rfl|simp_all [rv,au,get,Task.kK,dD.enc,encI,Ev.z,ax.enter,ak.enc,ax.enc,Task.enc,Ev.enc,bG.enc,bf.enc,dG.enc,Dead.enc,Dir.enc,aj.enc,Walk.enc,aV.enc,aH.enc,-Int.not_lt,-Int.not_le]<;>try rfl)
 ·simp only [Bool.not_eq_true] at c1
  simp only [c1,Bool.not_false,if_true] at hR
  refine Fn.aT bY Fe (by simp) ?_
  unfold Ad SC.mk' Task.enc
  simp only [go_sem]
  have aI:=gQ t.sec
  have aU:=gQ t.sec
  have hJ:=ah hn (ah c0' c1)
  exact aZ
end Go.Eng
