/-
  Part of a proof: lemmas and definitions of this work.
  No condition.
-/
import Derived.Test.YthhjbngoibmpgaaGreatA08
import Derived.Test.YthhjbngoibmpgaaGreatA30
set_option linter.all false
set_option maxRecDepth 100000
set_option maxHeartbeats 8000000
namespace Go.Eng
open Go Go.Proofs
attribute [local go_sem] aj.enc av.enc Task.enc Ev.enc bD.enc bf.enc cB.enc Dead.enc Dir.enc ak.enc Walk.enc aV.enc aJ.enc bL.enc Setup.enc aS dY dZ List.length_map
theorem adt (t:Task) (hl:t.sec.aW) (h1:0<t.sec.aN.length):Fn Tryz.prog 319 [.agg t.enc] [] (I (uY t)) [] []:=by
 generalize hR:uY t=R
 unfold uY at hR
 simp only at hR
 have hn:=kI h1
 have hsm:=nA hl 0
 generalize dW t.sec.aN 0=s at hR hn hsm
 refine Fn.aT bR aiZ (by simp) ?_
 unfold Uk SC.mk' Task.enc
 simp only [hn,ak.enc,List.length_map,go_sem]
 repeat (refine bn ?_)
 have aK:=nu s hsm
 have hJ:=trivial
 exact aZ
theorem aoq (t:Task) (hl:t.sec.aW) (hc:t.sec.lock.cells.length<=1000) (h1:0<t.sec.aN.length):Fn Tryz.prog 318 [.agg t.enc] [] (.aF [.agg (mh t).1.enc,.sl 10 ((mh t).2.map Ev.enc)]) [] []:=by
 generalize hR:mh t=R
 unfold mh at hR
 simp only at hR
 have hn:=kI h1
 have hsm:=nA hl 0
 have hro:=adt t hl h1
 have hdl:=hl.de
 generalize dW t.sec.aN 0=s at hR hn hsm
 generalize uY t=ro at hR hro
 by_cases c1:s.live=true
 ·simp only [c1,Bool.not_true,Bool.false_eq_true,if_false] at hR
  by_cases c2:(ro==0)=true
  ·simp only [if_pos c2] at hR
   refine Fn.aT bR ML (by simp) ?_
   unfold AB SC.mk' Task.enc
   simp only [hn,ak.enc,List.length_map,go_sem]
   repeat (refine bn ?_)
   have aK:=fF t.sec
   have aU:=jm t 9
   have bK:=fq t t.sec.bg (by simp [av.bg]) hc
   have hJ:=ah c1 c2
   exact aZ
  simp only [if_neg c2] at hR
  simp only [Bool.not_eq_true] at c2
  have htk:=an3 t.sec.dead ro t.sec.aI.epoch (by omega)
  have hxl:(t.sec.dead.take ro t.sec.aI.epoch).2.1.length<=1000:=by have:=take_len t.sec.dead ro t.sec.aI.epoch;omega
  generalize t.sec.dead.take ro t.sec.aI.epoch=x at hR htk hxl
  by_cases c3:x.2.1.length=0
  ·simp only [if_pos c3] at hR
   have c3':((x.2.1.length:Int)==0)=true:=by simpa using c3
   refine Fn.aT bR ML (by simp) ?_
   unfold AB SC.mk' Task.enc
   simp only [hn,ak.enc,List.length_map,go_sem]
   repeat (refine bn ?_)
   have aK:=fF t.sec
   have aU:=jm t 9
   have bK:=fq t t.sec.bg (by simp [av.bg]) hc
   have hJ:=ah c1 (ah c2 c3)
   exact aZ
  ·simp only [if_neg c3] at hR
   have c3':((x.2.1.length:Int)==0)=false:=by simpa using c3
   have hL:x.2.1.length<=1000:=hxl
   generalize xu:x.2.1=L at hR htk c3 c3' hL
   have mx:∀ j:Nat,j<=10000->j<=maxLen:=fun j h=>Nat.le_trans h (by decide)
   generalize hG:(fun m:ai=>(⟨m.id,m.gen,(m.qi s.low s.high).route,0⟩:cK))=G at hR
   refine Fn.aT bR ML (by simp) ?_
   unfold AB SC.mk' Task.enc
   simp only [hn,ak.enc,List.length_map,go_sem]
   repeat (refine bn ?_)
   have aK:=an6 t.sec
   have aU:=ic t 9
   have hJ:=ah hn (ah c1 (ah c2 c3'))
   repeat' first
    |(first|refine sC ?_|refine sD ?_|refine sZ ?_|refine sY ?_|refine sF ?_);simp only [hJ,go_sem]
    |(first|refine bC (fun hq=> ?_) (fun hq=> ?_)|refine dR (fun hq=> ?_) (fun hq=> ?_)|refine dD (fun hq=> ?_) (fun hq=> ?_))<;>simp only [hq,hJ,go_sem]
    |refine sM ?_;simp only [ay,rv,au,get,hJ,go_sem]
    |refine bn ?_
    |fail
   all_goals clear aK aU hJ
   refine go_loop (fun j:{j:Nat // j<=L.length}=>⟨5000,[(1,.ptr 8 0),(2,.ptr 16 0),(3,Nl),(4,.ptr 72 0),(5,.ptr 112 0),(6,.ptr 168 0),(8,.ptr 328 0),(9,.sl 7 (L.map ai.enc)),(11,I j.1)],[(328,.box [I x.1.cap,.sl 7 (x.1.l.map ai.enc)]),(168,.box [I t.sec.aI.stamp,I t.number,I t.entry,I 9,I t.sec.aI.clock,I t.sec.aI.epoch,I 0,.own 4008 4 0 j.1,I 0,I 0]),(4008,.row 233 4 ((((L.take j.1).map ai.gU).map G).map cK.enc)),(112,.box [.sl 8 (t.sec.aN.map ak.enc),I t.sec.dead.cap,.sl 7 (t.sec.dead.l.map ai.enc),Nl,.own 4000 7 0 j.1,Nl]),(4000,.row 123 7 (((L.take j.1).map ai.gU).map ai.enc)),(72,.box [Bo true,I s.low,I s.high,.sl 7 (s.ready.cells.map ai.enc),I s.ready.head,I s.ready.size,.sl 8 (s.aR.l.map Lease.enc),.sl 2 (s.aR.heap.map Due.enc)]),(16,.box [I 0,I 0,I 0,I 0,I 0,I 0,I 0,Nl,Nl,I 0,Bo false,I 0,I 0,I 0,Nl,I 0,I 0,I 0,I 0,I 0,I 0,I 0,I 0,I 0,I 0,Nl,I 0,I 0,I 0,I 0,I 0,I 0,I 0,I 0,Nl,I 0,Nl,Nl,I 0,Nl,Nl,Nl,I 0,Nl,Nl,Nl,Nl,I 0,Nl,I 0,Nl,Nl,I 0,I 0,I 0,I 0,I 0,I 0,I 0,I 0,I 0,Nl,Nl]),(8,.box [I t.number,I t.inv.kind,I t.inv.home,I t.inv.max_,I t.inv.bB,I t.inv.bq,I t.inv.to,.sl 1 (encS t.inv.bodies),.sl 1 (bW t.inv.tokens),I t.invoked,Bo t.dn,I t.ended,I t.pc,I t.entry,.sl 7 (t.results.map aV.enc),I t.setup.slots,I t.setup.live,I t.setup.capacity,I t.setup.dead,I t.setup.limit,I t.setup.clock,I t.setup.fB,I t.setup.epoch,I t.sec.phase,I t.sec.at_,.sl 1 (encI t.sec.lock.cells),I t.sec.lock.phase,I t.sec.lock.got,I t.sec.lock.tries,I t.sec.lock.wait,I t.sec.aI.phase,I t.sec.aI.epoch,I t.sec.aI.clock,I t.sec.aI.stamp,.sl 8 (t.sec.aN.map ak.enc),I t.sec.dead.cap,.sl 7 (t.sec.dead.l.map ai.enc),.sl 4 (t.sec.bU.map aJ.enc),I t.sec.dir.version,.sl 3 (t.sec.dir.l.map Span.enc),.sl 1 (encI t.sec.dir.aM),.sl 8 (t.sec.out.aN.map ak.enc),I t.sec.out.dead.cap,.sl 7 (t.sec.out.dead.l.map ai.enc),.sl 1 (encI t.sec.out.order),.sl 7 (t.sec.out.carry.map ai.enc),.sl 4 (t.sec.out.dO.map bL.enc),I t.sec.limit,.sl 7 (t.sec.carry.map ai.enc),I t.dir.version,.sl 3 (t.dir.l.map Span.enc),.sl 1 (encI t.dir.aM),I t.walk.next,I t.walk.covered,I t.slot,I t.id,I t.hnd.id,I t.hnd.gen,I t.hnd.route,I t.hnd.hint,I t.loaded,.sl 4 (t.first.map aJ.enc),.sl 4 (t.second.map aJ.enc)])]⟩) (fun j=>L.length - j.1) ⟨0,by omega⟩ (wk [(8,8),(16,16),(72,72),(112,112),(168,168),(328,328)] [4000,4008]) ?_
   rintro ⟨j,hj⟩ B hB
   simp only [go_sem]
   by_cases e1:j<L.length
   ·have e2:decide ((j:Int)<(L.length:Int))=true:=by simp;omega
    have hx:nth (L.map ai.enc) j=ai.enc (gM L j):=bS ai.enc ai.z e1
    have hw:=bT (show j<=100000 by omega)
    have hm1:=mx (j+1) (by omega)
    have ht:L.take (j+1)=L.take j++[gM L j]:=Bj ai.z e1
    generalize gM L j=m at hx ht
    have l1:(L.take j).length=j:=by simp;omega
    have e3:List.take j (((L.take j).map ai.gU).map ai.enc)=((L.take j).map ai.gU).map ai.enc:=bA (by simp;omega)
    have e4:List.take j ((((L.take j).map ai.gU).map G).map cK.enc)=(((L.take j).map ai.gU).map G).map cK.enc:=bA (by simp;omega)
    have e5:((L.take j).map ai.gU).map ai.enc++[m.gU.enc]=((L.take (j+1)).map ai.gU).map ai.enc:=by rw [ht];simp
    have e6:(((L.take j).map ai.gU).map G).map cK.enc++[[I m.gU.id,I m.gU.gen,I (m.gU.qi s.low s.high).route,I 0]]=(((L.take (j+1)).map ai.gU).map G).map cK.enc:=by rw [ht,<-hG];simp [cK.enc]
    simp only [ai.enc] at e5
    simp only [e2,hx,hw,Int.toNat_natCast,List.length_map,ai.enc,go_sem]
    repeat' first
     |(refine um ?_;simp only [e2,hx,hw,e3,e4,e5,e6,l1,Int.toNat_natCast,List.length_map,ai.enc,go_sem])
     |(refine aQ (acD m) rfl rfl ?_;simp only [e2,hx,hw,e3,e4,e5,e6,l1,Int.toNat_natCast,List.length_map,ai.enc,go_sem])
     |(refine bX (acD m) rfl rfl ?_;simp only [e2,hx,hw,e3,e4,e5,e6,l1,Int.toNat_natCast,List.length_map,ai.enc,go_sem])
     |(refine aQ (Ww m.gU s.low s.high) rfl rfl ?_;simp only [e2,hx,hw,e3,e4,e5,e6,l1,Int.toNat_natCast,List.length_map,ai.enc,go_sem])
     |(refine bX (Ww m.gU s.low s.high) rfl rfl ?_;simp only [e2,hx,hw,e3,e4,e5,e6,l1,Int.toNat_natCast,List.length_map,ai.enc,go_sem])
     |refine bn ?_
     |fail
    exact hB _ ⟨j+1,by omega⟩ (by simp only;omega) (wk [(8,8),(16,16),(72,72),(112,112),(168,168),(328,328),(4000,5120),(4008,5264)] [])
   ·have e2:decide ((j:Int)<(L.length:Int))=false:=by simp;omega
    have ht:L.take j=L:=bA (by omega)
    have hjL:j=L.length:=by omega
    clear hB
    simp only [e2,ht,List.length_map,go_sem]
    have e3:List.take j ((L.map ai.gU).map ai.enc)=(L.map ai.gU).map ai.enc:=bA (by simp;omega)
    have e4:List.take j (((L.map ai.gU).map G).map cK.enc)=((L.map ai.gU).map G).map cK.enc:=bA (by simp;omega)
    have hab:=acG s (L.map ai.gU) hsm (by simp;omega)
    generalize s.sU (L.map ai.gU)=ab at hR hab
    have hde:=fq t ⟨[ab.1],x.1,[1,0],L.map ai.gU,[]⟩ (by simp) hc
    have hC:(L.map ai.gU).length=j:=by simp;omega
    generalize L.map ai.gU=C at hR hab hde e3 e4 hC
    simp only [ak.enc,c1] at hab
    have hJ:=ah e3 e4
    exact aZ
 ·simp only [Bool.not_eq_true] at c1
  simp only [c1,Bool.not_false,if_true] at hR
  refine Fn.aT bR ML (by simp) ?_
  unfold AB SC.mk' Task.enc
  simp only [hn,ak.enc,List.length_map,go_sem]
  repeat (refine bn ?_)
  have aK:=fF t.sec
  have aU:=fq t t.sec.bg (by simp [av.bg]) hc
  have hJ:=c1
  exact aZ
end Go.Eng
