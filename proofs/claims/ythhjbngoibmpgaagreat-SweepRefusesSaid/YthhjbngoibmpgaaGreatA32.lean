/-
  Part of a proof: lemmas and definitions of this work.
  No condition.
-/
import Derived.Test.YthhjbngoibmpgaaGreatA08
import Derived.Test.YthhjbngoibmpgaaGreatA31
set_option linter.all false
set_option maxRecDepth 100000
set_option maxHeartbeats 8000000
namespace Go.Eng
open Go Go.Proofs
attribute [local go_sem] aj.enc av.enc Task.enc Ev.enc bD.enc bf.enc cB.enc Dead.enc Dir.enc ak.enc Walk.enc aV.enc aJ.enc bL.enc Setup.enc aS dY dZ List.length_map
theorem aoc (t:Task) (hl:t.sec.aW) (hc:t.sec.lock.cells.length<=1000) (h1:0<t.sec.aN.length) (s:ak) (hn:nth (t.sec.aN.map ak.enc) 0=s.enc) (hsm:s.sm) (x:ak×List Int×List Lease)
 (htk:Fn Tryz.prog 374 [.agg (Task.enc {t with loaded:=0})] [] (.aF [.agg x.1.enc,.sl 1 (encI x.2.1),.sl 8 (x.2.2.map Lease.enc)]) [] []) (hE:x.2.1.length<=13) (hL:x.2.2.length<=1000) (h8:0<x.2.1.length) (c1:s.owns t.walk.next=true)
 (c2:¬ 1073741824<IntKind.i64.wrap (t.sec.aI.clock+t.inv.bB)) (w:Walk) (hw:(t.walk.ng s.low s.high).1=w) (c9:¬ 0<x.2.2.length) (c3:w.over=false):Fn Tryz.prog 315 [.agg t.enc] [] (.aF [.agg (Task.enc (Task.dec {t with loaded:=0,walk:=w} {t.sec.bg with aN:=[x.1],order:=[0]})),.sl 10 (([{(t.jS 10) with l:=fH x.2.1}]:List Ev).map Ev.enc)]) [] []:=by
 have q9:decide ((0:Int)<(x.2.2.length:Int))=false:=decide_eq_false (by omega)
 have q8:decide ((0:Int)<(x.2.1.length:Int))=true:=decide_eq_true (by omega)
 have c2':decide (1073741824<IntKind.i64.wrap (t.sec.aI.clock+t.inv.bB))=false:=by simpa using c2
 have mx:∀ j:Nat,j<=10000->j<=maxLen:=fun j h=>Nat.le_trans h (by decide)
 have m1:=mx 1 (by omega)
 have m2:=mx 2 (by omega)
 obtain ⟨x1,E,L⟩:=x
 simp only at htk hE hL h8 q8 c9 q9 ⊢
 refine Fn.aT bR sP (by simp) ?_
 unfold qb SC.mk' Task.enc
 simp only [hn,ak.enc,List.length_map,go_sem]
 repeat (refine bn ?_)
 have aK:=fF t.sec
 have aU:=kG s t.walk.next hsm
 have hJ:=ah hn (ah c1 (ah c2' q8))
 repeat' first
  |(first|refine aQ (ic {t with loaded:=0} 3) rfl rfl ?_|refine bX (ic {t with loaded:=0} 3) rfl rfl ?_|refine sZ ?_ (ic {t with loaded:=0} 3)|refine sY ?_ (ic {t with loaded:=0} 3));simp only [hJ,aS,go_sem]
  |(first|refine aQ (ic {t with loaded:=0} 10) rfl rfl ?_|refine bX (ic {t with loaded:=0} 10) rfl rfl ?_|refine sZ ?_ (ic {t with loaded:=0} 10)|refine sY ?_ (ic {t with loaded:=0} 10));simp only [hJ,aS,go_sem]
  |(first|refine sC ?_|refine sD ?_|refine sZ ?_|refine sY ?_|refine sF ?_);simp only [hJ,aS,go_sem]
  |(first|refine bC (fun hq=> ?_) (fun hq=> ?_)|refine dR (fun hq=> ?_) (fun hq=> ?_)|refine dD (fun hq=> ?_) (fun hq=> ?_))<;>simp only [hq,hJ,aS,go_sem]
  |refine sM ?_;simp only [ay,rv,au,get,hJ,aS,go_sem]
  |refine bn ?_
  |fail
 all_goals clear aK aU hJ
 refine go_loop (fun j:{j:Nat // j<=E.length}=>⟨5000,[(1,.ptr 8 0),(2,.ptr 16 0),(3,Nl),(4,.ptr 72 0),(5,.ptr 128 0),(6,.ptr 208 0),(7,.ptr 344 0),(8,.sl 1 (encI E)),(9,.sl 8 (L.map Lease.enc)),(10,Nl),(11,.ptr 424 0),(12,I j.1)],[(424,.box [I t.sec.aI.stamp,I t.number,I t.entry,I 10,I t.sec.aI.clock,I t.sec.aI.epoch,I 0,.own 4000 4 0 j.1,I 0,I 0]),(4000,.row 233 4 ((fH (E.take j.1)).map cK.enc)),(344,.box [Bo x1.live,I x1.low,I x1.high,.sl 7 (x1.ready.cells.map ai.enc),I x1.ready.head,I x1.ready.size,.sl 8 (x1.aR.l.map Lease.enc),.sl 2 (x1.aR.heap.map Due.enc)]),(208,.box [I t.sec.aI.stamp,I t.number,I t.entry,I 3,I t.sec.aI.clock,I t.sec.aI.epoch,I 0,Nl,I 0,I 0]),(128,.box [.sl 8 (t.sec.bg.aN.map ak.enc),I t.sec.bg.dead.cap,.sl 7 (t.sec.bg.dead.l.map ai.enc),.sl 1 (encI t.sec.bg.order),.sl 7 (t.sec.bg.carry.map ai.enc),.sl 4 (t.sec.bg.dO.map bL.enc)]),(8,.box [I ({t with loaded:=0}:Task).number,I ({t with loaded:=0}:Task).inv.kind,I ({t with loaded:=0}:Task).inv.home,I ({t with loaded:=0}:Task).inv.max_,I ({t with loaded:=0}:Task).inv.bB,I ({t with loaded:=0}:Task).inv.bq,I ({t with loaded:=0}:Task).inv.to,.sl 1 (encS ({t with loaded:=0}:Task).inv.bodies),.sl 1 (bW ({t with loaded:=0}:Task).inv.tokens),I ({t with loaded:=0}:Task).invoked,Bo ({t with loaded:=0}:Task).dn,I ({t with loaded:=0}:Task).ended,I ({t with loaded:=0}:Task).pc,I ({t with loaded:=0}:Task).entry,.sl 7 (({t with loaded:=0}:Task).results.map aV.enc),I ({t with loaded:=0}:Task).setup.slots,I ({t with loaded:=0}:Task).setup.live,I ({t with loaded:=0}:Task).setup.capacity,I ({t with loaded:=0}:Task).setup.dead,I ({t with loaded:=0}:Task).setup.limit,I ({t with loaded:=0}:Task).setup.clock,I ({t with loaded:=0}:Task).setup.fB,I ({t with loaded:=0}:Task).setup.epoch,I ({t with loaded:=0}:Task).sec.phase,I ({t with loaded:=0}:Task).sec.at_,.sl 1 (encI ({t with loaded:=0}:Task).sec.lock.cells),I ({t with loaded:=0}:Task).sec.lock.phase,I ({t with loaded:=0}:Task).sec.lock.got,I ({t with loaded:=0}:Task).sec.lock.tries,I ({t with loaded:=0}:Task).sec.lock.wait,I ({t with loaded:=0}:Task).sec.aI.phase,I ({t with loaded:=0}:Task).sec.aI.epoch,I ({t with loaded:=0}:Task).sec.aI.clock,I ({t with loaded:=0}:Task).sec.aI.stamp,.sl 8 (({t with loaded:=0}:Task).sec.aN.map ak.enc),I ({t with loaded:=0}:Task).sec.dead.cap,.sl 7 (({t with loaded:=0}:Task).sec.dead.l.map ai.enc),.sl 4 (({t with loaded:=0}:Task).sec.bU.map aJ.enc),I ({t with loaded:=0}:Task).sec.dir.version,.sl 3 (({t with loaded:=0}:Task).sec.dir.l.map Span.enc),.sl 1 (encI ({t with loaded:=0}:Task).sec.dir.aM),.sl 8 (({t with loaded:=0}:Task).sec.out.aN.map ak.enc),I ({t with loaded:=0}:Task).sec.out.dead.cap,.sl 7 (({t with loaded:=0}:Task).sec.out.dead.l.map ai.enc),.sl 1 (encI ({t with loaded:=0}:Task).sec.out.order),.sl 7 (({t with loaded:=0}:Task).sec.out.carry.map ai.enc),.sl 4 (({t with loaded:=0}:Task).sec.out.dO.map bL.enc),I ({t with loaded:=0}:Task).sec.limit,.sl 7 (({t with loaded:=0}:Task).sec.carry.map ai.enc),I ({t with loaded:=0}:Task).dir.version,.sl 3 (({t with loaded:=0}:Task).dir.l.map Span.enc),.sl 1 (encI ({t with loaded:=0}:Task).dir.aM),I ({t with loaded:=0}:Task).walk.next,I ({t with loaded:=0}:Task).walk.covered,I ({t with loaded:=0}:Task).slot,I ({t with loaded:=0}:Task).id,I ({t with loaded:=0}:Task).hnd.id,I ({t with loaded:=0}:Task).hnd.gen,I ({t with loaded:=0}:Task).hnd.route,I ({t with loaded:=0}:Task).hnd.hint,I ({t with loaded:=0}:Task).loaded,.sl 4 (({t with loaded:=0}:Task).first.map aJ.enc),.sl 4 (({t with loaded:=0}:Task).second.map aJ.enc)]),(72,.box [Bo s.live,I s.low,I s.high,.sl 7 (s.ready.cells.map ai.enc),I s.ready.head,I s.ready.size,.sl 8 (s.aR.l.map Lease.enc),.sl 2 (s.aR.heap.map Due.enc)]),(16,.box [I 0,I 0,I 0,I 0,I 0,I 0,I 0,Nl,Nl,I 0,Bo false,I 0,I 0,I 0,Nl,I 0,I 0,I 0,I 0,I 0,I 0,I 0,I 0,I 0,I 0,Nl,I 0,I 0,I 0,I 0,I 0,I 0,I 0,I 0,Nl,I 0,Nl,Nl,I 0,Nl,Nl,Nl,I 0,Nl,Nl,Nl,Nl,I 0,Nl,I 0,Nl,Nl,I 0,I 0,I 0,I 0,I 0,I 0,I 0,I 0,I 0,Nl,Nl])]⟩) (fun j=>E.length - j.1) ⟨0,by omega⟩ (wk [(8,8),(16,16),(72,72),(128,128),(208,208),(344,344),(424,424)] [4000]) ?_
 rintro ⟨j,hj⟩ B hB
 simp only [go_sem]
 by_cases e1:j<E.length
 ·have e2:decide ((j:Int)<(E.length:Int))=true:=by simp;omega
  have hg:nth (encI E) j=[I (gI E j)]:=bS (fun z=>[I z]) 0 e1
  have hw1:=bT (show j<=100000 by omega)
  have hm1:=mx (j+1) (by omega)
  have e3:List.take j ((fH (E.take j)).map cK.enc)=(fH (E.take j)).map cK.enc:=bA (by simp;omega)
  have e4:=NS E j e1
  have l1:(E.take j).length=j:=by simp;omega
  simp only [e2,hg,hw1,e3,e4,l1,iP,List.length_map,aS,Int.toNat_natCast,go_sem]
  repeat (refine bn ?_)
  exact hB _ ⟨j+1,by omega⟩ (by simp only;omega) (wk [(8,8),(16,16),(72,72),(128,128),(208,208),(344,344),(424,424),(4000,5096)] [])
 have e2:decide ((j:Int)<(E.length:Int))=false:=by simp;omega
 have hjE:E.length=j:=by omega
 have ht:E.take j=E:=bA (by omega)
 have e3:List.take j ((fH E).map cK.enc)=(fH E).map cK.enc:=bA (by simp;omega)
 clear hB
 simp only [e2,ht,e3,aS,List.length_map,go_sem]
 have aK:=tK t.walk s.low s.high
 have aU:=jC w
 have bK:=fq {t with loaded:=0,walk:=w} {t.sec.bg with aN:=[x1],order:=[0]} (by simp) hc
 try dsimp only at bK
 have hJ:=ah hn (ah c1 (ah c2' (ah q9 (ah c3 (ah hw (ah e3 (ah q8 @iP)))))))
 exact aZ
end Go.Eng
