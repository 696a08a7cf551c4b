/-
  Part of a proof: lemmas and definitions of this work.
  No condition.
-/
import Derived.Test.YtmhaehngejengaaGreatA12
import Derived.Test.YtmhaehngejengaaGreatA38
set_option linter.all false
set_option maxRecDepth 100000
set_option maxHeartbeats 8000000
namespace Go.Eng
open Go Go.Proofs
def Gf:List (List AV):=[[I 1,I 1,.fn 11 []],[I 2,I 2,.fn 81 []],[I 3,I 5,.fn 82 []],[I 6,I 6,.fn 83 []],[I 7,I 7,.fn 84 []],[I 8,I 8,.fn 9 []],[I 9,I 9,.fn 85 []],[I 10,I 10,.fn 86 []],[I 11,I 11,.fn 87 []],[I 12,I 13,.fn 13 []],[I 14,I 14,.fn 88 []]]
theorem aqw:Fn Tryz.prog 43 [] [] (.sl 3 Gf) [] []:=by
 refine Fn.aN aaD (by simp) ?_
 unfold s43 SC.mk'
 simp only [go_sem]
 exact Fin.mk0 _ rfl rfl (by simp [ay,rv,au,get,Gf])
theorem aqx (a:ak) (t:Task) (k:Int) (h:t.dn=true):Fn Tryz.prog 15 [.agg a.enc,.agg t.enc,I k] [] (dW (fO 7)) [] []:=by
 refine Fn.aT dA Rf (by simp) ?_
 unfold s15 SC.mk' ak.enc Task.enc
 simp only [h,go_sem]
 exact Fin.mk0 _ rfl rfl (by simp [ay,dW,fO,rv,au,ak.enc,Task.enc])
theorem aqy (a:ak) (t:Task) (k:Int) (h:t.dn=false) (hk:t.inv.kind<1∨14<t.inv.kind):Fn Tryz.prog 15 [.agg a.enc,.agg t.enc,I k] [] (dW (fO 9)) [] []:=by
 refine Fn.aT dA Rf (by simp) ?_
 unfold s15 SC.mk' ak.enc Task.enc
 simp only [h,go_sem]
 refine aO aqw rfl rfl ?_
 have hpl:Gf.length=11:=rfl
 have key:∀ j:Nat,j<11→∃ (f l:Int) (s:Nat),nth Gf j=[I f,I l,.fn s []]∧1≤f∧l≤14:=by
  intro j hj
  match j,hj with
  |0,_=>exact ⟨_,_,_,rfl,by decide,by decide⟩
  |1,_=>exact ⟨_,_,_,rfl,by decide,by decide⟩
  |2,_=>exact ⟨_,_,_,rfl,by decide,by decide⟩
  |3,_=>exact ⟨_,_,_,rfl,by decide,by decide⟩
  |4,_=>exact ⟨_,_,_,rfl,by decide,by decide⟩
  |5,_=>exact ⟨_,_,_,rfl,by decide,by decide⟩
  |6,_=>exact ⟨_,_,_,rfl,by decide,by decide⟩
  |7,_=>exact ⟨_,_,_,rfl,by decide,by decide⟩
  |8,_=>exact ⟨_,_,_,rfl,by decide,by decide⟩
  |9,_=>exact ⟨_,_,_,rfl,by decide,by decide⟩
  |10,_=>exact ⟨_,_,_,rfl,by decide,by decide⟩
 simp only [hpl,go_sem]
 refine go_loop (fun j:{j:Nat // j≤11}=>⟨5000,[(4,.ptr 16 0),(6,.ptr 24 0),(7,.ptr 32 0),(8,Nl),(9,I 0),(16,.sl 3 Gf),(17,I 11),(18,I j.1)],[(16,.box [I t.number,I t.inv.kind,I t.inv.home,I t.inv.max_,I t.inv.vis,I t.inv.bC,I t.inv.to,.sl 1 (encS t.inv.bodies),.sl 1 (dm t.inv.tokens),I t.invoked,Bo t.dn,I t.ended,I t.pc,I t.entry,.sl 7 (t.results.map aV.enc),I t.setup.slots,I t.setup.live,I t.setup.capacity,I t.setup.dead,I t.setup.limit,I t.setup.clock,I t.setup.fQ,I t.setup.epoch,I t.sec.phase,I t.sec.at_,.sl 1 (encI t.sec.lock.cells),I t.sec.lock.phase,I t.sec.lock.got,I t.sec.lock.tries,I t.sec.lock.wait,I t.sec.aG.phase,I t.sec.aG.epoch,I t.sec.aG.clock,I t.sec.aG.stamp,.sl 8 (t.sec.shards.map aj.enc),I t.sec.dead.cap,.sl 7 (t.sec.dead.l.map ai.enc),.sl 4 (t.sec.cu.map aH.enc),I t.sec.dir.version,.sl 3 (t.sec.dir.l.map Span.enc),.sl 1 (encI t.sec.dir.aJ),.sl 8 (t.sec.out.shards.map aj.enc),I t.sec.out.dead.cap,.sl 7 (t.sec.out.dead.l.map ai.enc),.sl 1 (encI t.sec.out.order),.sl 7 (t.sec.out.carry.map ai.enc),.sl 4 (t.sec.out.dS.map bT.enc),I t.sec.limit,.sl 7 (t.sec.carry.map ai.enc),I t.dir.version,.sl 3 (t.dir.l.map Span.enc),.sl 1 (encI t.dir.aJ),I t.walk.next,I t.walk.covered,I t.slot,I t.id,I t.hnd.id,I t.hnd.gen,I t.hnd.route,I t.hnd.hint,I t.loaded,.sl 4 (t.first.map aH.enc),.sl 4 (t.second.map aH.enc)]),(24,.box [Nl,Nl,I 0,I 0,Nl,I 0,Nl,Nl,I 0,I 0,I 0]),(32,.box [I 0,I 0,I 0,I 0,I 0,I 0,I 0,Nl,Nl,I 0,Bo false,I 0,I 0,I 0,Nl,I 0,I 0,I 0,I 0,I 0,I 0,I 0,I 0,I 0,I 0,Nl,I 0,I 0,I 0,I 0,I 0,I 0,I 0,I 0,Nl,I 0,Nl,Nl,I 0,Nl,Nl,Nl,I 0,Nl,Nl,Nl,Nl,I 0,Nl,I 0,Nl,Nl,I 0,I 0,I 0,I 0,I 0,I 0,I 0,I 0,I 0,Nl,Nl])]⟩) (fun j=>11 - j.1) ⟨0,by omega⟩ (Wk.mk [(16,16),(24,24),(32,32)] [] rfl rfl (by simp only [dJ,cO,au,rv,h,go_sem]<;>try simp) trivial (by simp only [gU,rv,au,go_sem]<;>try simp)) ?_
 rintro ⟨j,hj⟩ B hB
 simp only [go_sem]
 by_cases e1:j<11
 ·have e2:decide ((j:Int)<11)=true:=by simp;omega
  have hw:=cZ (show j≤100000 by omega)
  obtain ⟨f,l,s,hx,h1,h2⟩:=key j e1
  simp only [e2,hx,hw,hpl,Int.toNat_natCast,go_sem]
  repeat (refine bn ?_)
  by_cases c1:f≤t.inv.kind
  ·have d1:decide (f≤t.inv.kind)=true:=by simpa using c1
   have d2:decide (t.inv.kind≤l)=false:=by simp;omega
   simp only [d1,d2,hw,go_sem]
   exact hB _ ⟨j+1,by omega⟩ (by simp only;omega) (Wk.mk [(16,16),(24,24),(32,32)] [] rfl rfl (by simp only [dJ,cO,au,rv,h,go_sem]<;>try simp) trivial (by simp only [gU,rv,au,go_sem]<;>try simp))
  ·have d1:decide (f≤t.inv.kind)=false:=by simpa using c1
   simp only [d1,hw,go_sem]
   exact hB _ ⟨j+1,by omega⟩ (by simp only;omega) (Wk.mk [(16,16),(24,24),(32,32)] [] rfl rfl (by simp only [dJ,cO,au,rv,h,go_sem]<;>try simp) trivial (by simp only [gU,rv,au,go_sem]<;>try simp))
 ·have e2:decide ((j:Int)<11)=false:=by simp;omega
  simp only [e2,go_sem]
  exact Fin.mk0 _ rfl rfl (by simp [ay,dW,fO,rv,au,ak.enc,Task.enc])
end Go.Eng
namespace Go.Eng
open Go Go.Proofs
end Go.Eng
namespace Go.Eng
open Go Go.Proofs
theorem aqz (kind:Int) (done:Bool) (l:List Int) (hA:Fn Tryz.prog 16 [] [] (Bo true) [] []):Fn Tryz.prog 6 [I kind,Bo done,.sl 1 (encI l)] [] (Bo true) [] []:=by
 have hl:(l.take 4000).length≤4000:=by simp;omega
 have hw:Fn Tryz.prog 8 [.ptr 0 0,I 6] [eU (l.take 4000) 0] (.agg (Bc (l.take 4000) 6 0).1.enc) [eU (l.take 4000) (Bc (l.take 4000) 6 0).2] []:=aqv (l.take 4000) 0 6 hl (by omega)
 generalize Bc (l.take 4000) 6 0=w at hw
 refine Fn.aN ok6 (by simp) ?_
 unfold s6 SC.mk'
 simp only [go_sem]
 refine Eu (fn7 l) rfl rfl (by simp) (by simp [fM]) ?_
 simp only [dP,sh,go_sem]
 refine fC (b:=24) hw ⟨rfl,⟨rfl,rfl⟩,trivial⟩ rfl rfl rfl rfl ?_
 simp only [aK.enc,go_sem]
 cases done
 ·have call:(kind<1∨14<kind)→Fn Tryz.prog 15 [.agg w.1.arena.enc,.agg (Task.enc {Task.z with number:=3,inv:={bV.z with kind:=kind},setup:=w.1.setup,dn:=false}),I 5] [] (dW (fO 9)) [] []:=fun h=>aqy w.1.arena {Task.z with number:=3,inv:={bV.z with kind:=kind},setup:=w.1.setup,dn:=false} 5 rfl h
  by_cases h1:1≤kind
  ·have d1:decide (1≤kind)=true:=by simpa using h1
   by_cases h2:kind≤14
   ·have d2:decide (kind≤14)=true:=by simpa using h2
    simp only [d1,d2,Bool.not_false,go_sem]
    exact Fin.bQ _ rfl rfl rfl rfl
   ·have d2:decide (kind≤14)=false:=by simpa using h2
    have hc:=call (by omega)
    simp only [d1,d2,Bool.not_false,go_sem]
    refine lX hc ?_ rfl rfl rfl ?_
    ·simp [au,rv,get,ak.enc,Task.enc,encS,dm,eG]
    simp only [fO,dW,ak.enc,Task.enc,go_sem]
    refine aO hA rfl rfl ?_
    simp only [go_sem]
    exact Fin.bQ _ rfl rfl rfl rfl
  ·have d1:decide (1≤kind)=false:=by simpa using h1
   have hc:=call (by omega)
   simp only [d1,Bool.not_false,go_sem]
   refine lX hc ?_ rfl rfl rfl ?_
   ·simp [au,rv,get,ak.enc,Task.enc,encS,dm,eG]
   simp only [fO,dW,ak.enc,Task.enc,go_sem]
   refine aO hA rfl rfl ?_
   simp only [go_sem]
   exact Fin.bQ _ rfl rfl rfl rfl
 ·have hc:Fn Tryz.prog 15 [.agg w.1.arena.enc,.agg (Task.enc {Task.z with number:=3,inv:={bV.z with kind:=kind},setup:=w.1.setup,dn:=true}),I 5] [] (dW (fO 7)) [] []:=aqx w.1.arena {Task.z with number:=3,inv:={bV.z with kind:=kind},setup:=w.1.setup,dn:=true} 5 rfl
  simp only [Bool.not_true,go_sem]
  refine lX hc ?_ rfl rfl rfl ?_
  ·simp [au,rv,get,ak.enc,Task.enc,encS,dm,eG]
  simp only [fO,dW,ak.enc,Task.enc,go_sem]
  refine aO hA rfl rfl ?_
  simp only [go_sem]
  exact Fin.bQ _ rfl rfl rfl rfl
end Go.Eng
