/-
  Part of a proof: lemmas and definitions of this work.
  No condition.
-/
import Derived.Test.YthhjbngoibmpgaaGreatA08
import Derived.Test.YthhjbngoibmpgaaGreatA30
set_option linter.all false
set_option maxRecDepth 100000
set_option maxHeartbeats 8000000
namespace Go.Eng
open Go Go.Proofs
attribute [local go_sem] aj.enc av.enc Task.enc Ev.enc bD.enc bf.enc cB.enc Dead.enc Dir.enc ak.enc Walk.enc aV.enc aJ.enc bL.enc Setup.enc aS dY dZ List.length_map
theorem aoa (t:Task):(kF t).2.1.length<=13:=adl _ _ _ _
theorem ado (L:List Lease) (j:Nat) (h:j<L.length):((L.take j).map fun y:Lease=>(⟨y.msg.id,y.msg.gen,y.msg.route,y.dl⟩:cK)).map cK.enc++[[I (L[j]?.getD Lease.z).msg.id,I (L[j]?.getD Lease.z).msg.gen,I (L[j]?.getD Lease.z).msg.route,I (L[j]?.getD Lease.z).dl]]=((L.take (j+1)).map fun y:Lease=>(⟨y.msg.id,y.msg.gen,y.msg.route,y.dl⟩:cK)).map cK.enc:=by
 rw [Bj Lease.z h];simp [cK.enc]
theorem aob (t:Task) (hl:t.sec.aW) (hc:t.sec.lock.cells.length<=1000) (h1:0<t.sec.aN.length) (h8:¬ 0<(kF {t with loaded:=0}).2.1.length):Fn Tryz.prog 315 [.agg t.enc] [] (.aF [.agg (jV t).1.enc,.sl 10 ((jV t).2.map Ev.enc)]) [] []:=by
 generalize hR:jV t=R
 unfold jV at hR
 simp only at hR
 have hn:=kI h1
 have hsm:=nA hl 0
 generalize dW t.sec.aN 0=s at hR hn hsm
 have htk:=Xj {t with loaded:=0} hl h1
 have hL:=Xk {t with loaded:=0}
 generalize kF {t with loaded:=0}=x at hR htk hL h8
 have q8:decide ((0:Int)<(x.2.1.length:Int))=false:=decide_eq_false (by omega)
 have mx:∀ j:Nat,j<=10000->j<=maxLen:=fun j h=>Nat.le_trans h (by decide)
 have m1:=mx 1 (by omega)
 by_cases c1:s.owns t.walk.next=true
 ·simp only [c1,Bool.not_true,Bool.false_eq_true,if_false] at hR
  by_cases c2:1073741824<IntKind.i64.wrap (t.sec.aI.clock+t.inv.bB)
  ·simp only [if_pos c2] at hR
   have c2':decide (1073741824<IntKind.i64.wrap (t.sec.aI.clock+t.inv.bB))=true:=by simpa using c2
   refine Fn.aT bR sP (by simp) ?_
   unfold qb SC.mk' Task.enc
   simp only [hn,ak.enc,List.length_map,go_sem]
   repeat (refine bn ?_)
   have aK:=fF t.sec
   have aU:=kG s t.walk.next hsm
   have bK:=jm {t with loaded:=0} 3
   try dsimp only at bK
   have dV:=fq {t with loaded:=3} t.sec.bg (by simp [av.bg]) hc
   try dsimp only at dV
   have hJ:=ah hn (ah c1 c2')
   exact aZ
  simp only [if_neg c2] at hR
  have c2':decide (1073741824<IntKind.i64.wrap (t.sec.aI.clock+t.inv.bB))=false:=by simpa using c2
  generalize hw:(t.walk.ng s.low s.high).1=w at hR
  by_cases c9:0<x.2.2.length
  ·have q9:decide ((0:Int)<(x.2.2.length:Int))=true:=decide_eq_true (by omega)
   simp only [h8,c9,false_or,if_true,if_false] at hR
   generalize xu:x.2.2=L at hR htk hL c9 q9
   refine Fn.aT bR sP (by simp) ?_
   unfold qb SC.mk' Task.enc
   simp only [hn,ak.enc,List.length_map,go_sem]
   repeat (refine bn ?_)
   have aK:=fF t.sec
   have aU:=kG s t.walk.next hsm
   have bK:=tK t.walk s.low s.high
   have hJ:=ah hn (ah c1 (ah c2' (ah q8 (ah q9 hw))))
   repeat' first
    |(first|refine aQ (ic {t with loaded:=0} 3) rfl rfl ?_|refine bX (ic {t with loaded:=0} 3) rfl rfl ?_|refine sZ ?_ (ic {t with loaded:=0} 3)|refine sY ?_ (ic {t with loaded:=0} 3));simp only [hJ,aS,go_sem]
    |(first|refine sC ?_|refine sD ?_|refine sZ ?_|refine sY ?_|refine sF ?_);simp only [hJ,aS,go_sem]
    |(first|refine bC (fun hq=> ?_) (fun hq=> ?_)|refine dR (fun hq=> ?_) (fun hq=> ?_)|refine dD (fun hq=> ?_) (fun hq=> ?_))<;>simp only [hq,hJ,aS,go_sem]
    |refine sM ?_;simp only [ay,rv,au,get,hJ,aS,go_sem]
    |refine bn ?_
    |fail
   all_goals clear aK aU bK hJ
   generalize hG:(fun y:Lease=>(⟨y.msg.id,y.msg.gen,y.msg.route,y.dl⟩:cK))=G at hR
   refine go_loop (fun j:{j:Nat // j<=L.length}=>⟨5000,[(1,.ptr 8 0),(2,.ptr 16 0),(3,Nl),(5,.ptr 128 0),(6,.ptr 208 0),(9,.sl 8 (L.map Lease.enc)),(10,Nl),(13,I j.1)],[(208,.box [I t.sec.aI.stamp,I t.number,I t.entry,I 3,I t.sec.aI.clock,I t.sec.aI.epoch,I 0,.own 4000 4 0 j.1,I 0,I 0]),(4000,.row 233 4 (((L.take j.1).map G).map cK.enc)),(128,.box [.sl 8 [[Bo x.1.live,I x.1.low,I x.1.high,.sl 7 (x.1.ready.cells.map ai.enc),I x.1.ready.head,I x.1.ready.size,.sl 8 (x.1.aR.l.map Lease.enc),.sl 2 (x.1.aR.heap.map Due.enc)]],I t.sec.bg.dead.cap,.sl 7 (t.sec.bg.dead.l.map ai.enc),.sl 1 [[I 0]],.sl 7 (t.sec.bg.carry.map ai.enc),.sl 4 (t.sec.bg.dO.map bL.enc)]),(16,.box [I 0,I 0,I 0,I 0,I 0,I 0,I 0,Nl,Nl,I 0,Bo false,I 0,I 0,I 0,Nl,I 0,I 0,I 0,I 0,I 0,I 0,I 0,I 0,I 0,I 0,Nl,I 0,I 0,I 0,I 0,I 0,I 0,I 0,I 0,Nl,I 0,Nl,Nl,I 0,Nl,Nl,Nl,I 0,Nl,Nl,Nl,Nl,I 0,Nl,I 0,Nl,Nl,I 0,I 0,I 0,I 0,I 0,I 0,I 0,I 0,I 0,Nl,Nl]),(8,.box [I ({t with loaded:=1,walk:=w}:Task).number,I ({t with loaded:=1,walk:=w}:Task).inv.kind,I ({t with loaded:=1,walk:=w}:Task).inv.home,I ({t with loaded:=1,walk:=w}:Task).inv.max_,I ({t with loaded:=1,walk:=w}:Task).inv.bB,I ({t with loaded:=1,walk:=w}:Task).inv.bq,I ({t with loaded:=1,walk:=w}:Task).inv.to,.sl 1 (encS ({t with loaded:=1,walk:=w}:Task).inv.bodies),.sl 1 (bW ({t with loaded:=1,walk:=w}:Task).inv.tokens),I ({t with loaded:=1,walk:=w}:Task).invoked,Bo ({t with loaded:=1,walk:=w}:Task).dn,I ({t with loaded:=1,walk:=w}:Task).ended,I ({t with loaded:=1,walk:=w}:Task).pc,I ({t with loaded:=1,walk:=w}:Task).entry,.sl 7 (({t with loaded:=1,walk:=w}:Task).results.map aV.enc),I ({t with loaded:=1,walk:=w}:Task).setup.slots,I ({t with loaded:=1,walk:=w}:Task).setup.live,I ({t with loaded:=1,walk:=w}:Task).setup.capacity,I ({t with loaded:=1,walk:=w}:Task).setup.dead,I ({t with loaded:=1,walk:=w}:Task).setup.limit,I ({t with loaded:=1,walk:=w}:Task).setup.clock,I ({t with loaded:=1,walk:=w}:Task).setup.fB,I ({t with loaded:=1,walk:=w}:Task).setup.epoch,I ({t with loaded:=1,walk:=w}:Task).sec.phase,I ({t with loaded:=1,walk:=w}:Task).sec.at_,.sl 1 (encI ({t with loaded:=1,walk:=w}:Task).sec.lock.cells),I ({t with loaded:=1,walk:=w}:Task).sec.lock.phase,I ({t with loaded:=1,walk:=w}:Task).sec.lock.got,I ({t with loaded:=1,walk:=w}:Task).sec.lock.tries,I ({t with loaded:=1,walk:=w}:Task).sec.lock.wait,I ({t with loaded:=1,walk:=w}:Task).sec.aI.phase,I ({t with loaded:=1,walk:=w}:Task).sec.aI.epoch,I ({t with loaded:=1,walk:=w}:Task).sec.aI.clock,I ({t with loaded:=1,walk:=w}:Task).sec.aI.stamp,.sl 8 (({t with loaded:=1,walk:=w}:Task).sec.aN.map ak.enc),I ({t with loaded:=1,walk:=w}:Task).sec.dead.cap,.sl 7 (({t with loaded:=1,walk:=w}:Task).sec.dead.l.map ai.enc),.sl 4 (({t with loaded:=1,walk:=w}:Task).sec.bU.map aJ.enc),I ({t with loaded:=1,walk:=w}:Task).sec.dir.version,.sl 3 (({t with loaded:=1,walk:=w}:Task).sec.dir.l.map Span.enc),.sl 1 (encI ({t with loaded:=1,walk:=w}:Task).sec.dir.aM),.sl 8 (({t with loaded:=1,walk:=w}:Task).sec.out.aN.map ak.enc),I ({t with loaded:=1,walk:=w}:Task).sec.out.dead.cap,.sl 7 (({t with loaded:=1,walk:=w}:Task).sec.out.dead.l.map ai.enc),.sl 1 (encI ({t with loaded:=1,walk:=w}:Task).sec.out.order),.sl 7 (({t with loaded:=1,walk:=w}:Task).sec.out.carry.map ai.enc),.sl 4 (({t with loaded:=1,walk:=w}:Task).sec.out.dO.map bL.enc),I ({t with loaded:=1,walk:=w}:Task).sec.limit,.sl 7 (({t with loaded:=1,walk:=w}:Task).sec.carry.map ai.enc),I ({t with loaded:=1,walk:=w}:Task).dir.version,.sl 3 (({t with loaded:=1,walk:=w}:Task).dir.l.map Span.enc),.sl 1 (encI ({t with loaded:=1,walk:=w}:Task).dir.aM),I ({t with loaded:=1,walk:=w}:Task).walk.next,I ({t with loaded:=1,walk:=w}:Task).walk.covered,I ({t with loaded:=1,walk:=w}:Task).slot,I ({t with loaded:=1,walk:=w}:Task).id,I ({t with loaded:=1,walk:=w}:Task).hnd.id,I ({t with loaded:=1,walk:=w}:Task).hnd.gen,I ({t with loaded:=1,walk:=w}:Task).hnd.route,I ({t with loaded:=1,walk:=w}:Task).hnd.hint,I ({t with loaded:=1,walk:=w}:Task).loaded,.sl 4 (({t with loaded:=1,walk:=w}:Task).first.map aJ.enc),.sl 4 (({t with loaded:=1,walk:=w}:Task).second.map aJ.enc)])]⟩) (fun j=>L.length - j.1) ⟨0,by omega⟩ (wk [(8,8),(16,16),(128,128),(208,208)] [4000]) ?_
   rintro ⟨j,hj⟩ B hB
   simp only [go_sem]
   by_cases e1:j<L.length
   ·have e2:decide ((j:Int)<(L.length:Int))=true:=by simp;omega
    have hx:nth (L.map Lease.enc) j=Lease.enc (L[j]?.getD Lease.z):=bS Lease.enc Lease.z e1
    have hw1:=bT (show j<=100000 by omega)
    have hm1:=mx (j+1) (by omega)
    have e3:List.take j (((L.take j).map G).map cK.enc)=((L.take j).map G).map cK.enc:=bA (by simp;omega)
    have e4:=ado L j e1
    rw [hG] at e4
    generalize L[j]?.getD Lease.z=m at hx e4
    have l1:(L.take j).length=j:=by simp;omega
    simp only [e2,hx,hw1,e3,e4,l1,Int.toNat_natCast,List.length_map,Lease.enc,go_sem]
    repeat' first
     |(refine um ?_;simp only [e2,hx,hw1,e3,e4,l1,Int.toNat_natCast,List.length_map,Lease.enc,go_sem])
     |(refine aQ (jC w) rfl rfl ?_;simp only [e2,hx,hw1,e3,e4,l1,Int.toNat_natCast,List.length_map,Lease.enc,go_sem])
     |(refine bX (jC w) rfl rfl ?_;simp only [e2,hx,hw1,e3,e4,l1,Int.toNat_natCast,List.length_map,Lease.enc,go_sem])
     |refine bn ?_
     |fail
    exact hB _ ⟨j+1,by omega⟩ (by simp only;omega) (wk [(8,8),(16,16),(128,128),(208,208),(4000,5208)] [])
   ·have e2:decide ((j:Int)<(L.length:Int))=false:=by simp;omega
    have ht:L.take j=L:=bA (by omega)
    have hjL:j=L.length:=by omega
    clear hB
    have e3:List.take j ((L.map G).map cK.enc)=(L.map G).map cK.enc:=bA (by simp;omega)
    simp only [e2,ht,List.length_map,go_sem]
    have aK:=jC w
    have aU:=fq {t with loaded:=1,walk:=w} {t.sec.bg with aN:=[x.1],order:=[0]} (by simp) hc
    try dsimp only at aU
    have hJ:=e3
    exact aZ
  ·have q9:decide ((0:Int)<(x.2.2.length:Int))=false:=decide_eq_false (by omega)
   simp only [h8,c9,or_self,if_false] at hR
   by_cases c3:w.over=true
   ·simp only [c3,if_true] at hR
    refine Fn.aT bR sP (by simp) ?_
    unfold qb SC.mk' Task.enc
    simp only [hn,ak.enc,List.length_map,go_sem]
    repeat (refine bn ?_)
    have aK:=fF t.sec
    have aU:=kG s t.walk.next hsm
    have bK:=jm {t with loaded:=0} 3
    try dsimp only at bK
    have dV:=tK t.walk s.low s.high
    have fQ:=jC w
    have mR:=fq {t with loaded:=2,walk:=w} t.sec.bg (by simp [av.bg]) hc
    try dsimp only at mR
    have hJ:=ah hn (ah c1 (ah c2' (ah q8 (ah q9 (ah c3 hw)))))
    exact aZ
   ·simp only [c3,Bool.false_eq_true,if_false] at hR
    simp only [Bool.not_eq_true] at c3
    refine Fn.aT bR sP (by simp) ?_
    unfold qb SC.mk' Task.enc
    simp only [hn,ak.enc,List.length_map,go_sem]
    repeat (refine bn ?_)
    have aK:=fF t.sec
    have aU:=kG s t.walk.next hsm
    have bK:=jm {t with loaded:=0} 3
    try dsimp only at bK
    have dV:=tK t.walk s.low s.high
    have fQ:=jC w
    have mR:=fq {t with loaded:=0,walk:=w} t.sec.bg (by simp [av.bg]) hc
    try dsimp only at mR
    have hJ:=ah hn (ah c1 (ah c2' (ah q8 (ah q9 (ah c3 hw)))))
    exact aZ
 ·simp only [Bool.not_eq_true] at c1
  simp only [c1,Bool.not_false,if_true] at hR
  refine Fn.aT bR sP (by simp) ?_
  unfold qb SC.mk' Task.enc
  simp only [hn,ak.enc,List.length_map,go_sem]
  repeat (refine bn ?_)
  have aK:=fF t.sec
  have aU:=kG s t.walk.next hsm
  have bK:=fq {t with loaded:=0} t.sec.bg (by simp [av.bg]) hc
  try dsimp only at bK
  have hJ:=ah hn c1
  exact aZ
end Go.Eng
