/-
  Part of a proof: lemmas and definitions of this work.
  No condition.
-/
import Derived.Test.YtmhaehngejengaaGreatA12
import Derived.Test.YtmhaehngejengaaGreatT00
set_option linter.all false
set_option maxRecDepth 100000
set_option maxHeartbeats 8000000
namespace Go.Eng
open Go Go.Proofs
attribute [local go_sem] ak.enc ax.enc Task.enc Ev.enc bG.enc bf.enc dG.enc Dead.enc Dir.enc aj.enc Walk.enc aV.enc aH.enc bT.enc Setup.enc aS fD fE List.length_map
theorem apC (t:Task) (hl:t.sec.aW) (hc:t.sec.lock.cells.length≤1000) (h1:0<t.sec.shards.length) (s:aj) (hn:nth (t.sec.shards.map aj.enc) 0=s.enc) (hsm:s.sm) (x:aj×List Int×List Lease)
 (htk:Fn Tryz.prog 420 [.agg (Task.enc {t with loaded:=0})] [] (.aF [.agg x.1.enc,.sl 1 (encI x.2.1),.sl 8 (x.2.2.map Lease.enc)]) [] []) (hE:x.2.1.length≤13) (hL:x.2.2.length≤1000) (h8:0<x.2.1.length) (c1:s.owns t.walk.next=true)
 (c2:¬ 1073741824<IntKind.i64.wrap (t.sec.aG.clock+t.inv.vis)) (w:Walk) (hw:(t.walk.oN s.low s.high).1=w) (c9:¬ 0<x.2.2.length) (c3:w.over=false):Fn Tryz.prog 355 [.agg t.enc] [] (.aF [.agg (Task.enc (Task.dec {t with loaded:=0,walk:=w} {t.sec.bg with shards:=[x.1],order:=[0]})),.sl 10 (([{(t.kK 10) with l:=gW x.2.1}]:List Ev).map Ev.enc)]) [] []:=by
 have q9:decide ((0:Int)<(x.2.2.length:Int))=false:=decide_eq_false (by omega)
 have q8:decide ((0:Int)<(x.2.1.length:Int))=true:=decide_eq_true (by omega)
 have c2':decide (1073741824<IntKind.i64.wrap (t.sec.aG.clock+t.inv.vis))=false:=by simpa using c2
 have mx:∀ j:Nat,j≤10000→j≤maxLen:=fun j h=>Nat.le_trans h (by decide)
 have m1:=mx 1 (by omega)
 have m2:=mx 2 (by omega)
 obtain ⟨x1,E,L⟩:=x
 simp only at htk hE hL h8 q8 c9 q9 ⊢
 refine Fn.aT bY uZ (by simp) ?_
 unfold rE SC.mk' Task.enc
 simp only [hn,aj.enc,List.length_map,go_sem]
 repeat (refine bn ?_)
 have aI:=gQ t.sec
 have aU:=lG s t.walk.next hsm
 have hJ:=ah hn (ah c1 (ah c2' q8))
 repeat' first
  |(first|refine aO (iW {t with loaded:=0} 3) rfl rfl ?_|refine dh (iW {t with loaded:=0} 3) rfl rfl ?_|refine sZ ?_ (iW {t with loaded:=0} 3)|refine sY ?_ (iW {t with loaded:=0} 3));simp only [hJ,aS,go_sem]
  |(first|refine aO (iW {t with loaded:=0} 10) rfl rfl ?_|refine dh (iW {t with loaded:=0} 10) rfl rfl ?_|refine sZ ?_ (iW {t with loaded:=0} 10)|refine sY ?_ (iW {t with loaded:=0} 10));simp only [hJ,aS,go_sem]
  |(first|refine sC ?_|refine sD ?_|refine sZ ?_|refine sY ?_|refine sF ?_);simp only [hJ,aS,go_sem]
  |(first|refine bF (fun hq=> ?_) (fun hq=> ?_)|refine dY (fun hq=> ?_) (fun hq=> ?_)|refine dL (fun hq=> ?_) (fun hq=> ?_))<;>simp only [hq,hJ,aS,go_sem]
  |refine sM ?_;simp only [ay,rv,au,get,hJ,aS,go_sem]
  |refine bn ?_
  |fail
 all_goals clear aI aU hJ
 refine go_loop (fun j:{j:Nat // j≤E.length}=>⟨5000,[(1,.ptr 8 0),(2,.ptr 16 0),(3,Nl),(4,.ptr 72 0),(5,.ptr 128 0),(6,.ptr 208 0),(7,.ptr 344 0),(8,.sl 1 (encI E)),(9,.sl 8 (L.map Lease.enc)),(10,Nl),(11,.ptr 424 0),(12,I j.1)],[(424,.box [I t.sec.aG.stamp,I t.number,I t.entry,I 10,I t.sec.aG.clock,I t.sec.aG.epoch,I 0,.own 4000 4 0 j.1,I 0,I 0]),(4000,.row 95 4 ((gW (E.take j.1)).map dD.enc)),(344,.box [Bo x1.live,I x1.low,I x1.high,.sl 7 (x1.ready.cells.map ai.enc),I x1.ready.head,I x1.ready.size,.sl 8 (x1.aP.l.map Lease.enc),.sl 2 (x1.aP.heap.map Due.enc)]),(208,.box [I t.sec.aG.stamp,I t.number,I t.entry,I 3,I t.sec.aG.clock,I t.sec.aG.epoch,I 0,Nl,I 0,I 0]),(128,.box [.sl 8 (t.sec.bg.shards.map aj.enc),I t.sec.bg.dead.cap,.sl 7 (t.sec.bg.dead.l.map ai.enc),.sl 1 (encI t.sec.bg.order),.sl 7 (t.sec.bg.carry.map ai.enc),.sl 4 (t.sec.bg.dS.map bT.enc)]),(8,.box [I ({t with loaded:=0}:Task).number,I ({t with loaded:=0}:Task).inv.kind,I ({t with loaded:=0}:Task).inv.home,I ({t with loaded:=0}:Task).inv.max_,I ({t with loaded:=0}:Task).inv.vis,I ({t with loaded:=0}:Task).inv.bC,I ({t with loaded:=0}:Task).inv.to,.sl 1 (encS ({t with loaded:=0}:Task).inv.bodies),.sl 1 (dm ({t with loaded:=0}:Task).inv.tokens),I ({t with loaded:=0}:Task).invoked,Bo ({t with loaded:=0}:Task).dn,I ({t with loaded:=0}:Task).ended,I ({t with loaded:=0}:Task).pc,I ({t with loaded:=0}:Task).entry,.sl 7 (({t with loaded:=0}:Task).results.map aV.enc),I ({t with loaded:=0}:Task).setup.slots,I ({t with loaded:=0}:Task).setup.live,I ({t with loaded:=0}:Task).setup.capacity,I ({t with loaded:=0}:Task).setup.dead,I ({t with loaded:=0}:Task).setup.limit,I ({t with loaded:=0}:Task).setup.clock,I ({t with loaded:=0}:Task).setup.fQ,I ({t with loaded:=0}:Task).setup.epoch,I ({t with loaded:=0}:Task).sec.phase,I ({t with loaded:=0}:Task).sec.at_,.sl 1 (encI ({t with loaded:=0}:Task).sec.lock.cells),I ({t with loaded:=0}:Task).sec.lock.phase,I ({t with loaded:=0}:Task).sec.lock.got,I ({t with loaded:=0}:Task).sec.lock.tries,I ({t with loaded:=0}:Task).sec.lock.wait,I ({t with loaded:=0}:Task).sec.aG.phase,I ({t with loaded:=0}:Task).sec.aG.epoch,I ({t with loaded:=0}:Task).sec.aG.clock,I ({t with loaded:=0}:Task).sec.aG.stamp,.sl 8 (({t with loaded:=0}:Task).sec.shards.map aj.enc),I ({t with loaded:=0}:Task).sec.dead.cap,.sl 7 (({t with loaded:=0}:Task).sec.dead.l.map ai.enc),.sl 4 (({t with loaded:=0}:Task).sec.cu.map aH.enc),I ({t with loaded:=0}:Task).sec.dir.version,.sl 3 (({t with loaded:=0}:Task).sec.dir.l.map Span.enc),.sl 1 (encI ({t with loaded:=0}:Task).sec.dir.aJ),.sl 8 (({t with loaded:=0}:Task).sec.out.shards.map aj.enc),I ({t with loaded:=0}:Task).sec.out.dead.cap,.sl 7 (({t with loaded:=0}:Task).sec.out.dead.l.map ai.enc),.sl 1 (encI ({t with loaded:=0}:Task).sec.out.order),.sl 7 (({t with loaded:=0}:Task).sec.out.carry.map ai.enc),.sl 4 (({t with loaded:=0}:Task).sec.out.dS.map bT.enc),I ({t with loaded:=0}:Task).sec.limit,.sl 7 (({t with loaded:=0}:Task).sec.carry.map ai.enc),I ({t with loaded:=0}:Task).dir.version,.sl 3 (({t with loaded:=0}:Task).dir.l.map Span.enc),.sl 1 (encI ({t with loaded:=0}:Task).dir.aJ),I ({t with loaded:=0}:Task).walk.next,I ({t with loaded:=0}:Task).walk.covered,I ({t with loaded:=0}:Task).slot,I ({t with loaded:=0}:Task).id,I ({t with loaded:=0}:Task).hnd.id,I ({t with loaded:=0}:Task).hnd.gen,I ({t with loaded:=0}:Task).hnd.route,I ({t with loaded:=0}:Task).hnd.hint,I ({t with loaded:=0}:Task).loaded,.sl 4 (({t with loaded:=0}:Task).first.map aH.enc),.sl 4 (({t with loaded:=0}:Task).second.map aH.enc)]),(72,.box [Bo s.live,I s.low,I s.high,.sl 7 (s.ready.cells.map ai.enc),I s.ready.head,I s.ready.size,.sl 8 (s.aP.l.map Lease.enc),.sl 2 (s.aP.heap.map Due.enc)]),(16,.box [I 0,I 0,I 0,I 0,I 0,I 0,I 0,Nl,Nl,I 0,Bo false,I 0,I 0,I 0,Nl,I 0,I 0,I 0,I 0,I 0,I 0,I 0,I 0,I 0,I 0,Nl,I 0,I 0,I 0,I 0,I 0,I 0,I 0,I 0,Nl,I 0,Nl,Nl,I 0,Nl,Nl,Nl,I 0,Nl,Nl,Nl,Nl,I 0,Nl,I 0,Nl,Nl,I 0,I 0,I 0,I 0,I 0,I 0,I 0,I 0,I 0,Nl,Nl])]⟩) (fun j=>E.length - j.1) ⟨0,by omega⟩ (wk [(8,8),(16,16),(72,72),(128,128),(208,208),(344,344),(424,424)] [4000]) ?_
 rintro ⟨j,hj⟩ B hB
 simp only [go_sem]
 by_cases e1:j<E.length
 ·have e2:decide ((j:Int)<(E.length:Int))=true:=by simp;omega
  have hg:nth (encI E) j=[I (gI E j)]:=bZ (fun z=>[I z]) 0 e1
  have hw1:=cZ (show j≤100000 by omega)
  have hm1:=mx (j+1) (by omega)
  have e3:List.take j ((gW (E.take j)).map dD.enc)=(gW (E.take j)).map dD.enc:=bD (by simp;omega)
  have e4:=O3 E j e1
  have l1:(E.take j).length=j:=by simp;omega
  simp only [e2,hg,hw1,e3,e4,l1,jv,List.length_map,aS,Int.toNat_natCast,go_sem]
  repeat (refine bn ?_)
  exact hB _ ⟨j+1,by omega⟩ (by simp only;omega) (wk [(8,8),(16,16),(72,72),(128,128),(208,208),(344,344),(424,424),(4000,5096)] [])
 have e2:decide ((j:Int)<(E.length:Int))=false:=by simp;omega
 have hjE:E.length=j:=by omega
 have ht:E.take j=E:=bD (by omega)
 have e3:List.take j ((gW E).map dD.enc)=(gW E).map dD.enc:=bD (by simp;omega)
 clear hB
 simp only [e2,ht,e3,aS,List.length_map,go_sem]
 have aI:=vK t.walk s.low s.high
 have aU:=jY w
 have bK:=fV {t with loaded:=0,walk:=w} {t.sec.bg with shards:=[x1],order:=[0]} (by simp) hc
 try dsimp only at bK
 have hJ:=ah hn (ah c1 (ah c2' (ah q9 (ah c3 (ah hw (ah e3 (ah q8 @jv)))))))
 exact aZ
end Go.Eng
