/-
  Part of a proof: lemmas and definitions of this work.
  No condition.
-/
import Derived.Test.YtmfankbjapjjiaaGreatA08
import Derived.Test.YtmfankbjapjjiaaGreatA31
set_option linter.all false
set_option maxRecDepth 100000
set_option maxHeartbeats 8000000
namespace Go.Eng
open Go Go.Proofs
attribute [local go_sem] aj.enc av.enc Task.enc Ev.enc bE.enc aW.enc cB.enc Dead.enc Dir.enc ak.enc Walk.enc aU.enc aI.enc bN.enc Setup.enc aS dX dY List.length_map
theorem NU (t:Task) (k:Int):Fn Tryz.prog 320 [.agg t.enc,I k] [] (.agg [I t.sec.aJ.stamp,I t.number,I t.entry,I k,I t.sec.aJ.clock,I t.sec.aJ.epoch,I 0,.sl 4 [],I 0,I 0]) [] []:=jr t k
theorem aoA (t:Task) (hl:t.sec.bf) (hc:t.sec.lock.cells.length<=1000) (h1:0<t.sec.aN.length) (s:ak) (hn:nth (t.sec.aN.map ak.enc) 0=s.enc) (hsm:s.sm) (x:ak×List Int×List Lease)
 (htk:Fn Tryz.prog 331 [.agg (Task.enc {t with loaded:=0})] [] (.aG [.agg x.1.enc,.sl 1 (encI x.2.1),.sl 8 (x.2.2.map Lease.enc)]) [] []) (hE:x.2.1.length<=13) (hL:x.2.2.length<=1000) (h8:0<x.2.1.length) (c1:s.owns t.walk.next=true)
 (c2:¬ 1073741824<IntKind.i64.wrap (t.sec.aJ.clock+t.inv.bC)) (w:Walk) (hw:(t.walk.nk s.low s.high).1=w) (c9:¬ 0<x.2.2.length) (c3:w.over=true):Fn Tryz.prog 274 [.agg t.enc] [] (.aG [.agg (Task.enc (Task.dec {t with loaded:=2,walk:=w} {t.sec.bg with aN:=[x.1],order:=[0]})),.sl 10 (([{(t.jS 10) with l:=fH x.2.1},t.jS 3]:List Ev).map Ev.enc)]) [] []:=by
 have q9:decide ((0:Int)<(x.2.2.length:Int))=false:=decide_eq_false (by omega)
 have q8:decide ((0:Int)<(x.2.1.length:Int))=true:=decide_eq_true (by omega)
 have c2':decide (1073741824<IntKind.i64.wrap (t.sec.aJ.clock+t.inv.bC))=false:=by simpa using c2
 have mx:∀ j:Nat,j<=10000->j<=maxLen:=fun j h=>Nat.le_trans h (by decide)
 have m1:=mx 1 (by omega)
 have m2:=mx 2 (by omega)
 obtain ⟨x1,E,L⟩:=x
 simp only at htk hE hL h8 q8 c9 q9 ⊢
 refine Fn.aT bS qN (by simp) ?_
 unfold qa SC.mk' Task.enc
 simp only [hn,ak.enc,List.length_map,go_sem]
 repeat (refine bn ?_)
 have aK:=fF t.sec
 have aV:=kH s t.walk.next hsm
 have hJ:=ah hn (ah c1 (ah c2' q8))
 repeat' first
  |(first|refine aQ (NU {t with loaded:=0} 3) rfl rfl ?_|refine bX (NU {t with loaded:=0} 3) rfl rfl ?_|refine sZ ?_ (NU {t with loaded:=0} 3)|refine sY ?_ (NU {t with loaded:=0} 3));simp only [hJ,aS,go_sem]
  |(first|refine aQ (ic {t with loaded:=0} 10) rfl rfl ?_|refine bX (ic {t with loaded:=0} 10) rfl rfl ?_|refine sZ ?_ (ic {t with loaded:=0} 10)|refine sY ?_ (ic {t with loaded:=0} 10));simp only [hJ,aS,go_sem]
  |(first|refine sC ?_|refine sD ?_|refine sZ ?_|refine sY ?_|refine sF ?_);simp only [hJ,aS,go_sem]
  |(first|refine bD (fun hq=> ?_) (fun hq=> ?_)|refine dS (fun hq=> ?_) (fun hq=> ?_)|refine dD (fun hq=> ?_) (fun hq=> ?_))<;>simp only [hq,hJ,aS,go_sem]
  |refine sM ?_;simp only [ay,rv,au,get,hJ,aS,go_sem]
  |refine bn ?_
  |fail
 all_goals clear aK aV hJ
 refine go_loop (fun j:{j:Nat // j<=E.length}=>⟨5000,[(1,.ptr 8 0),(2,.ptr 16 0),(3,Nl),(4,.ptr 72 0),(5,.ptr 128 0),(6,.ptr 208 0),(7,.ptr 344 0),(8,.sl 1 (encI E)),(9,.sl 8 (L.map Lease.enc)),(10,Nl),(11,.ptr 424 0),(12,I j.1)],[(424,.box [I t.sec.aJ.stamp,I t.number,I t.entry,I 10,I t.sec.aJ.clock,I t.sec.aJ.epoch,I 0,.own 4000 4 0 j.1,I 0,I 0]),(4000,.row 94 4 ((fH (E.take j.1)).map cK.enc)),(344,.box [Bo x1.live,I x1.low,I x1.high,.sl 7 (x1.ready.cells.map ai.enc),I x1.ready.head,I x1.ready.size,.sl 8 (x1.aR.l.map Lease.enc),.sl 2 (x1.aR.heap.map Due.enc)]),(208,.box [I t.sec.aJ.stamp,I t.number,I t.entry,I 3,I t.sec.aJ.clock,I t.sec.aJ.epoch,I 0,.sl 4 [],I 0,I 0]),(128,.box [.sl 8 (t.sec.bg.aN.map ak.enc),I t.sec.bg.dead.cap,.sl 7 (t.sec.bg.dead.l.map ai.enc),.sl 1 (encI t.sec.bg.order),.sl 7 (t.sec.bg.carry.map ai.enc),.sl 4 (t.sec.bg.dP.map bN.enc)]),(8,.box [I ({t with loaded:=0}:Task).number,I ({t with loaded:=0}:Task).inv.kind,I ({t with loaded:=0}:Task).inv.home,I ({t with loaded:=0}:Task).inv.max_,I ({t with loaded:=0}:Task).inv.bC,I ({t with loaded:=0}:Task).inv.bA,I ({t with loaded:=0}:Task).inv.to,.sl 1 (encS ({t with loaded:=0}:Task).inv.bodies),.sl 1 (bW ({t with loaded:=0}:Task).inv.tokens),I ({t with loaded:=0}:Task).invoked,Bo ({t with loaded:=0}:Task).dn,I ({t with loaded:=0}:Task).ended,I ({t with loaded:=0}:Task).pc,I ({t with loaded:=0}:Task).entry,.sl 7 (({t with loaded:=0}:Task).results.map aU.enc),I ({t with loaded:=0}:Task).setup.slots,I ({t with loaded:=0}:Task).setup.live,I ({t with loaded:=0}:Task).setup.capacity,I ({t with loaded:=0}:Task).setup.dead,I ({t with loaded:=0}:Task).setup.limit,I ({t with loaded:=0}:Task).setup.clock,I ({t with loaded:=0}:Task).setup.fA,I ({t with loaded:=0}:Task).setup.epoch,I ({t with loaded:=0}:Task).sec.phase,I ({t with loaded:=0}:Task).sec.at_,.sl 1 (encI ({t with loaded:=0}:Task).sec.lock.cells),I ({t with loaded:=0}:Task).sec.lock.phase,I ({t with loaded:=0}:Task).sec.lock.got,I ({t with loaded:=0}:Task).sec.lock.tries,I ({t with loaded:=0}:Task).sec.lock.wait,I ({t with loaded:=0}:Task).sec.aJ.phase,I ({t with loaded:=0}:Task).sec.aJ.epoch,I ({t with loaded:=0}:Task).sec.aJ.clock,I ({t with loaded:=0}:Task).sec.aJ.stamp,.sl 8 (({t with loaded:=0}:Task).sec.aN.map ak.enc),I ({t with loaded:=0}:Task).sec.dead.cap,.sl 7 (({t with loaded:=0}:Task).sec.dead.l.map ai.enc),.sl 4 (({t with loaded:=0}:Task).sec.bU.map aI.enc),I ({t with loaded:=0}:Task).sec.dir.version,.sl 3 (({t with loaded:=0}:Task).sec.dir.l.map Span.enc),.sl 1 (encI ({t with loaded:=0}:Task).sec.dir.aL),.sl 8 (({t with loaded:=0}:Task).sec.out.aN.map ak.enc),I ({t with loaded:=0}:Task).sec.out.dead.cap,.sl 7 (({t with loaded:=0}:Task).sec.out.dead.l.map ai.enc),.sl 1 (encI ({t with loaded:=0}:Task).sec.out.order),.sl 7 (({t with loaded:=0}:Task).sec.out.carry.map ai.enc),.sl 4 (({t with loaded:=0}:Task).sec.out.dP.map bN.enc),I ({t with loaded:=0}:Task).sec.limit,.sl 7 (({t with loaded:=0}:Task).sec.carry.map ai.enc),I ({t with loaded:=0}:Task).dir.version,.sl 3 (({t with loaded:=0}:Task).dir.l.map Span.enc),.sl 1 (encI ({t with loaded:=0}:Task).dir.aL),I ({t with loaded:=0}:Task).walk.next,I ({t with loaded:=0}:Task).walk.covered,I ({t with loaded:=0}:Task).slot,I ({t with loaded:=0}:Task).id,I ({t with loaded:=0}:Task).hnd.id,I ({t with loaded:=0}:Task).hnd.gen,I ({t with loaded:=0}:Task).hnd.route,I ({t with loaded:=0}:Task).hnd.hint,I ({t with loaded:=0}:Task).loaded,.sl 4 (({t with loaded:=0}:Task).first.map aI.enc),.sl 4 (({t with loaded:=0}:Task).second.map aI.enc)]),(72,.box [Bo s.live,I s.low,I s.high,.sl 7 (s.ready.cells.map ai.enc),I s.ready.head,I s.ready.size,.sl 8 (s.aR.l.map Lease.enc),.sl 2 (s.aR.heap.map Due.enc)]),(16,.box [I 0,I 0,I 0,I 0,I 0,I 0,I 0,Nl,Nl,I 0,Bo false,I 0,I 0,I 0,Nl,I 0,I 0,I 0,I 0,I 0,I 0,I 0,I 0,I 0,I 0,Nl,I 0,I 0,I 0,I 0,I 0,I 0,I 0,I 0,Nl,I 0,Nl,Nl,I 0,Nl,Nl,Nl,I 0,Nl,Nl,Nl,Nl,I 0,Nl,I 0,Nl,Nl,I 0,I 0,I 0,I 0,I 0,I 0,I 0,I 0,I 0,Nl,Nl])]⟩) (fun j=>E.length - j.1) ⟨0,by omega⟩ (wk [(8,8),(16,16),(72,72),(128,128),(208,208),(344,344),(424,424)] [4000]) ?_
 rintro ⟨j,hj⟩ B hB
 simp only [go_sem]
 by_cases e1:j<E.length
 ·have e2:decide ((j:Int)<(E.length:Int))=true:=by simp;omega
  have hg:nth (encI E) j=[I (gI E j)]:=bT (fun z=>[I z]) 0 e1
  have hw1:=bQ (show j<=100000 by omega)
  have hm1:=mx (j+1) (by omega)
  have e3:List.take j ((fH (E.take j)).map cK.enc)=(fH (E.take j)).map cK.enc:=bB (by simp;omega)
  have e4:=NT E j e1
  have l1:(E.take j).length=j:=by simp;omega
  simp only [e2,hg,hw1,e3,e4,l1,iQ,List.length_map,aS,Int.toNat_natCast,go_sem]
  repeat (refine bn ?_)
  exact hB _ ⟨j+1,by omega⟩ (by simp only;omega) (wk [(8,8),(16,16),(72,72),(128,128),(208,208),(344,344),(424,424),(4000,5096)] [])
 have e2:decide ((j:Int)<(E.length:Int))=false:=by simp;omega
 have hjE:E.length=j:=by omega
 have ht:E.take j=E:=bB (by omega)
 have e3:List.take j ((fH E).map cK.enc)=(fH E).map cK.enc:=bB (by simp;omega)
 clear hB
 simp only [e2,ht,e3,aS,List.length_map,go_sem]
 (refine Db (by simp only [go_sem];rfl) (by rfl) (by simp only [go_sem]<;>first|trivial|omega|(simp<;>omega)) ?_;simp only [go_sem])
 simp only [hn,c1,c2',q9,c3,hw,e3,iQ,aS,q8,List.length_map,Walk.enc,Task.enc,bE.enc,ak.enc,Ev.enc,go_sem]
 repeat' first
  |(refine aQ (jG w) rfl rfl ?_;simp only [hn,c1,c2',q9,c3,hw,e3,iQ,aS,q8,List.length_map,Walk.enc,Task.enc,bE.enc,ak.enc,Ev.enc,go_sem])
  |(refine bX (jG w) rfl rfl ?_;simp only [hn,c1,c2',q9,c3,hw,e3,iQ,aS,q8,List.length_map,Walk.enc,Task.enc,bE.enc,ak.enc,Ev.enc,go_sem])
  |refine bn ?_
  |fail
 refine LF (t':=[(1,.ptr 8 0),(2,.ptr 16 0),(3,Nl),(4,.ptr 72 0),(5,.ptr 128 0),(6,.ptr 208 0),(9,.sl 8 (L.map Lease.enc)),(10,.own 5056 10 0 1)]) (h':=[(5056,.row 92 10 [[I t.sec.aJ.stamp,I t.number,I t.entry,I 10,I t.sec.aJ.clock,I t.sec.aJ.epoch,I 0,.sl 4 ((fH E).map cK.enc),I 0,I 0]]),(208,.box [I t.sec.aJ.stamp,I t.number,I t.entry,I 3,I t.sec.aJ.clock,I t.sec.aJ.epoch,I 0,.sl 4 [],I 0,I 0]),(128,.box [.sl 8 [[Bo x1.live,I x1.low,I x1.high,.sl 7 (x1.ready.cells.map ai.enc),I x1.ready.head,I x1.ready.size,.sl 8 (x1.aR.l.map Lease.enc),.sl 2 (x1.aR.heap.map Due.enc)]],I t.sec.bg.dead.cap,.sl 7 (t.sec.bg.dead.l.map ai.enc),.sl 1 [[I 0]],.sl 7 (t.sec.bg.carry.map ai.enc),.sl 4 (t.sec.bg.dP.map bN.enc)]),(8,.box [I ({t with loaded:=0}:Task).number,I ({t with loaded:=0}:Task).inv.kind,I ({t with loaded:=0}:Task).inv.home,I ({t with loaded:=0}:Task).inv.max_,I ({t with loaded:=0}:Task).inv.bC,I ({t with loaded:=0}:Task).inv.bA,I ({t with loaded:=0}:Task).inv.to,.sl 1 (encS ({t with loaded:=0}:Task).inv.bodies),.sl 1 (bW ({t with loaded:=0}:Task).inv.tokens),I ({t with loaded:=0}:Task).invoked,Bo ({t with loaded:=0}:Task).dn,I ({t with loaded:=0}:Task).ended,I ({t with loaded:=0}:Task).pc,I ({t with loaded:=0}:Task).entry,.sl 7 (({t with loaded:=0}:Task).results.map aU.enc),I ({t with loaded:=0}:Task).setup.slots,I ({t with loaded:=0}:Task).setup.live,I ({t with loaded:=0}:Task).setup.capacity,I ({t with loaded:=0}:Task).setup.dead,I ({t with loaded:=0}:Task).setup.limit,I ({t with loaded:=0}:Task).setup.clock,I ({t with loaded:=0}:Task).setup.fA,I ({t with loaded:=0}:Task).setup.epoch,I ({t with loaded:=0}:Task).sec.phase,I ({t with loaded:=0}:Task).sec.at_,.sl 1 (encI ({t with loaded:=0}:Task).sec.lock.cells),I ({t with loaded:=0}:Task).sec.lock.phase,I ({t with loaded:=0}:Task).sec.lock.got,I ({t with loaded:=0}:Task).sec.lock.tries,I ({t with loaded:=0}:Task).sec.lock.wait,I ({t with loaded:=0}:Task).sec.aJ.phase,I ({t with loaded:=0}:Task).sec.aJ.epoch,I ({t with loaded:=0}:Task).sec.aJ.clock,I ({t with loaded:=0}:Task).sec.aJ.stamp,.sl 8 (({t with loaded:=0}:Task).sec.aN.map ak.enc),I ({t with loaded:=0}:Task).sec.dead.cap,.sl 7 (({t with loaded:=0}:Task).sec.dead.l.map ai.enc),.sl 4 (({t with loaded:=0}:Task).sec.bU.map aI.enc),I ({t with loaded:=0}:Task).sec.dir.version,.sl 3 (({t with loaded:=0}:Task).sec.dir.l.map Span.enc),.sl 1 (encI ({t with loaded:=0}:Task).sec.dir.aL),.sl 8 (({t with loaded:=0}:Task).sec.out.aN.map ak.enc),I ({t with loaded:=0}:Task).sec.out.dead.cap,.sl 7 (({t with loaded:=0}:Task).sec.out.dead.l.map ai.enc),.sl 1 (encI ({t with loaded:=0}:Task).sec.out.order),.sl 7 (({t with loaded:=0}:Task).sec.out.carry.map ai.enc),.sl 4 (({t with loaded:=0}:Task).sec.out.dP.map bN.enc),I ({t with loaded:=0}:Task).sec.limit,.sl 7 (({t with loaded:=0}:Task).sec.carry.map ai.enc),I ({t with loaded:=0}:Task).dir.version,.sl 3 (({t with loaded:=0}:Task).dir.l.map Span.enc),.sl 1 (encI ({t with loaded:=0}:Task).dir.aL),I ({t with loaded:=0}:Task).walk.next,I ({t with loaded:=0}:Task).walk.covered,I ({t with loaded:=0}:Task).slot,I ({t with loaded:=0}:Task).id,I ({t with loaded:=0}:Task).hnd.id,I ({t with loaded:=0}:Task).hnd.gen,I ({t with loaded:=0}:Task).hnd.route,I ({t with loaded:=0}:Task).hnd.hint,I ({t with loaded:=0}:Task).loaded,.sl 4 (({t with loaded:=0}:Task).first.map aI.enc),.sl 4 (({t with loaded:=0}:Task).second.map aI.enc)]),(72,.box [Bo s.live,I s.low,I s.high,.sl 7 (s.ready.cells.map ai.enc),I s.ready.head,I s.ready.size,.sl 8 (s.aR.l.map Lease.enc),.sl 2 (s.aR.heap.map Due.enc)]),(16,.box [I 0,I 0,I 0,I 0,I 0,I 0,I 0,Nl,Nl,I 0,Bo false,I 0,I 0,I 0,Nl,I 0,I 0,I 0,I 0,I 0,I 0,I 0,I 0,I 0,I 0,Nl,I 0,I 0,I 0,I 0,I 0,I 0,I 0,I 0,Nl,I 0,Nl,Nl,I 0,Nl,Nl,Nl,I 0,Nl,Nl,Nl,Nl,I 0,Nl,I 0,Nl,Nl,I 0,I 0,I 0,I 0,I 0,I 0,I 0,I 0,I 0,Nl,Nl])]) (wk [(8,8),(16,16),(72,72),(128,128),(208,208),(5056,5056)] []) ?_
 simp only [hn,c1,c2',q9,c3,hw,e3,iQ,aS,q8,List.length_map,Walk.enc,Task.enc,bE.enc,ak.enc,Ev.enc,go_sem]
 repeat' first
  |(refine aQ (tF t.walk s.low s.high) rfl rfl ?_;simp only [hn,c1,c2',q9,c3,hw,e3,iQ,aS,q8,List.length_map,Walk.enc,Task.enc,bE.enc,ak.enc,Ev.enc,go_sem])
  |(refine bX (tF t.walk s.low s.high) rfl rfl ?_;simp only [hn,c1,c2',q9,c3,hw,e3,iQ,aS,q8,List.length_map,Walk.enc,Task.enc,bE.enc,ak.enc,Ev.enc,go_sem])
  |refine bn ?_
  |fail
 refine ul ?_
 simp only [hn,c1,c2',q9,c3,hw,e3,iQ,aS,q8,List.length_map,Walk.enc,Task.enc,bE.enc,ak.enc,Ev.enc,go_sem]
 repeat' first
  |(refine aQ (jG w) rfl rfl ?_;simp only [hn,c1,c2',q9,c3,hw,e3,iQ,aS,q8,List.length_map,Walk.enc,Task.enc,bE.enc,ak.enc,Ev.enc,go_sem])
  |(refine bX (jG w) rfl rfl ?_;simp only [hn,c1,c2',q9,c3,hw,e3,iQ,aS,q8,List.length_map,Walk.enc,Task.enc,bE.enc,ak.enc,Ev.enc,go_sem])
  |refine bn ?_
  |fail
 refine ul ?_
 simp only [hn,c1,c2',q9,c3,hw,e3,iQ,aS,q8,List.length_map,Walk.enc,Task.enc,bE.enc,ak.enc,Ev.enc,go_sem]
 repeat' first
  |(refine aQ (jG w) rfl rfl ?_;simp only [hn,c1,c2',q9,c3,hw,e3,iQ,aS,q8,List.length_map,Walk.enc,Task.enc,bE.enc,ak.enc,Ev.enc,go_sem])
  |(refine bX (jG w) rfl rfl ?_;simp only [hn,c1,c2',q9,c3,hw,e3,iQ,aS,q8,List.length_map,Walk.enc,Task.enc,bE.enc,ak.enc,Ev.enc,go_sem])
  |refine bn ?_
  |fail
 have aK:=fo {t with loaded:=2,walk:=w} {t.sec.bg with aN:=[x1],order:=[0]} (by simp) hc
 try dsimp only at aK
 have hJ:=ah hn (ah c1 (ah c2' (ah q9 (ah c3 (ah hw (ah e3 (ah q8 @iQ)))))))
 exact aZ
end Go.Eng
