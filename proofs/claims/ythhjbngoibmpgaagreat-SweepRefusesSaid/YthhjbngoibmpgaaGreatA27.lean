/-
  Part of a proof: lemmas and definitions of this work.
  No condition.
-/
import Derived.Test.YthhjbngoibmpgaaGreatA08
import Derived.Test.YthhjbngoibmpgaaGreatA26
set_option linter.all false
set_option maxRecDepth 100000
set_option maxHeartbeats 8000000
namespace Go.Eng
open Go Go.Proofs
attribute [local go_sem] aj.enc av.enc Task.enc Ev.enc bD.enc bf.enc cB.enc Dead.enc Dir.enc ak.enc Walk.enc aV.enc aJ.enc bL.enc Setup.enc aS dY dZ List.length_map
@[simp] theorem aq2:encS []=[]:=rfl
@[simp] theorem aq3:bW []=[]:=rfl
theorem DT (n a b:Int):Fn Tryz.prog 148 [I n,I a,I b] [] (Bo (dP n a b)) [] []:=by
 refine Fn.aO Mk (by simp) ?_
 unfold Rn SC.mk'
 simp only [go_sem]
 have hJ:=trivial
 repeat' first
  |(first|refine sC ?_|refine sD ?_);simp only [hJ,go_sem]
  |(first|refine bC (fun hq=> ?_) (fun hq=> ?_)|refine dR (fun hq=> ?_) (fun hq=> ?_)|refine dD (fun hq=> ?_) (fun hq=> ?_))<;>simp only [hq,hJ,go_sem]
  |refine sM ?_;simp only [ay,rv,au,get,hJ,go_sem]
  |refine bn ?_
  |fail
 all_goals clear hJ
 all_goals simp_all [dP,-Int.not_lt,-Int.not_le]
theorem anD (i:bM):Fn Tryz.prog 146 [.agg i.enc] [] (I i.entries) [] []:=by
 generalize hR:i.entries=R
 unfold bM.entries at hR
 refine Fn.aO Rm (by simp) ?_
 unfold Rk SC.mk' bM.enc
 simp only [go_sem]
 exact aX
theorem anE (i:bM) (u:Setup):Fn Tryz.prog 85 [.agg i.enc,.agg u.enc] [] (I (i.val u)) [] []:=by
 generalize hR:i.val u=R
 unfold bM.val at hR
 simp only at hR
 refine Fn.aO Me (by simp) ?_
 unfold Qz SC.mk' bM.enc Setup.enc
 simp only [go_sem]
 generalize hW:IntKind.i64.wrap (u.slots - 1)=w at hR ⊢
 by_cases k1:(i.kind==1)=true
 ·simp only [if_pos k1] at hR
  simp only [k1,dY,go_sem]
  by_cases h0:((i.bodies.length:Int)==0)=true
  ·simp only [h0,Bool.true_or,if_true] at hR
   simp only [h0,go_sem]
   exact Fin.aD _ rfl rfl (by rw [<-hR];rfl)
  simp only [Bool.not_eq_true] at h0
  by_cases h1:6<(i.bodies.length:Int)
  ·simp only [h0,h1,Bool.false_or,decide_true,if_true] at hR
   simp only [h0,h1,dY,go_sem]
   exact Fin.aD _ rfl rfl (by rw [<-hR];rfl)
  simp only [h0,h1,Bool.false_or,decide_false,Bool.false_eq_true,if_false] at hR
  simp only [h0,h1,dY,go_sem]
  generalize hK:VS i.bodies=K at hR
  unfold VS at hK
  refine go_loop (fun j:{j:Nat // j<=i.bodies.length/\((i.bodies.drop j).any fun b=>decide (16<b.size))=K}=>⟨2000,[(2,.ptr 8 0),(3,.ptr 16 0),(6,I j.1)],[(8,.box [I i.kind,I i.home,I i.max_,I i.bB,I i.bq,I i.to,.sl 1 (encS i.bodies),.sl 1 (bW i.tokens)]),(16,.box [I u.slots,I u.live,I u.capacity,I u.dead,I u.limit,I u.clock,I u.fB,I u.epoch])]⟩) (fun j=>i.bodies.length - j.1) ⟨0,by omega,hK⟩ (wk [(8,8),(16,16)] []) ?_
  rintro ⟨j,hj,he⟩ B hB
  simp only [go_sem]
  by_cases e1:j<i.bodies.length
  ·have e2:decide ((j:Int)<(i.bodies.length:Int))=true:=by simp;omega
   rw [eB ⟨#[]⟩ e1] at he
   simp only [List.any_cons] at he
   have hx:=aa6 e1
   have hw:=bT (show j<=100000 by omega)
   generalize i.bodies[j]?.getD ⟨#[]⟩=b at he hx
   simp only [e2,hx,dY,Int.toNat_natCast,go_sem]
   repeat (refine bn ?_)
   by_cases e3:(16:Int)<b.size
   ·rw [show decide (16<b.size)=true by simp;omega,Bool.true_or] at he
    rw [<-he,if_pos rfl] at hR
    simp only [e3,go_sem]
    exact Fin.aD _ rfl rfl (by rw [<-hR];rfl)
   ·rw [show decide (16<b.size)=false by simp;omega,Bool.false_or] at he
    simp only [e3,hw,go_sem]
    exact hB _ ⟨j+1,by omega,he⟩ (by simp only;omega) (wk [(8,8),(16,16)] [])
  ·have e2:decide ((j:Int)<(i.bodies.length:Int))=false:=by simp;omega
   rw [eH (by omega)] at he
   rw [<-he] at hR
   simp only [e2,dY,go_sem]
   exact Fin.aD _ rfl rfl (by rw [<-hR];rfl)
 ·simp only [if_neg k1] at hR
  simp only [Bool.not_eq_true] at k1
  simp only [k1,go_sem]
  have aK:=DT i.home 0 w
  have aU:=DT i.max_ 1 6
  have bK:=DT i.bB 0 1000
  have dV:=DT i.bq 0 w
  have fQ:=DT i.to 0 w
  have hJ:=hW
  exact aZ
theorem iH (t:Task) (r:aV) (n:Int) (h0:t.results.length<=1000) (h1:0<=t.entry/\t.entry<=1000):Fn Tryz.prog 91 [.agg t.enc,.agg r.enc,I n] [] (.agg (t.next r n).enc) [] []:=by
 generalize hR:t.next r n=R
 unfold Task.next at hR
 have hw:IntKind.i64.wrap (t.entry+1)=t.entry+1:=bE (by omega)
 have hm:t.results.length<=maxLen:=Nat.le_trans (show _<=10000 by omega) (by decide)
 have hm1:t.results.length+1<=maxLen:=Nat.le_trans (show _<=10000 by omega) (by decide)
 refine Fn.aT bR QG (by simp) ?_
 unfold QF SC.mk' Task.enc aV.enc
 simp only [go_sem]
 have aK:=anD t.inv
 have hJ:=hw
 exact aZ
end Go.Eng
namespace Go.Eng
open Go Go.Proofs
attribute [local go_sem] aj.enc av.enc Task.enc Ev.enc bD.enc bf.enc cB.enc Dead.enc Dir.enc ak.enc Walk.enc aV.enc aJ.enc bL.enc Setup.enc aS dY dZ List.length_map
theorem bZ (t:Task) (lo hi:Int):Fn Tryz.prog 86 [.agg t.enc,I lo,I hi] [] (I (t.guard lo hi)) [] []:=by
 generalize hR:t.guard lo hi=R
 unfold Task.guard at hR
 refine Fn.aO QB (by simp) ?_
 unfold QA SC.mk' Task.enc
 simp only [go_sem]
 exact aX
theorem jY (e:Int):Fn Tryz.prog 87 [I e] [] (.aF [.agg aj.z.enc,.agg Task.z.enc,.sl 10 [],I e]) [] []:=by
 refine Fn.aO ain (by simp) ?_
 unfold s87 SC.mk'
 simp only [go_sem]
 exact aX
theorem vv (t:Task) (c:List Int) (pc:Int) (hc:c.length<=1000):Fn Tryz.prog 92 [.agg t.enc,.sl 1 (encI c),I pc] [] (.agg (t.eU c pc).enc) [] []:=by
 generalize hR:t.eU c pc=R
 unfold Task.eU at hR
 refine Fn.aO QI (by simp) ?_
 unfold QH SC.mk' Task.enc
 simp only [go_sem]
 have aK:=ank c t.setup.limit hc
 have hJ:=trivial
 exact aZ
theorem qx (a b:Int):Fn Tryz.prog 320 [I a,I b] [] (.sl 1 (encI (jc a b))) [] []:=by
 refine Fn.aO ai0 (by simp) ?_
 unfold Ul SC.mk'
 simp only [go_sem]
 have hJ:=trivial
 repeat' first
  |(first|refine sC ?_|refine sD ?_);simp only [hJ,go_sem]
  |(first|refine bC (fun hq=> ?_) (fun hq=> ?_)|refine dR (fun hq=> ?_) (fun hq=> ?_)|refine dD (fun hq=> ?_) (fun hq=> ?_))<;>simp only [hq,hJ,go_sem]
  |refine sM ?_;simp only [ay,rv,au,get,hJ,go_sem]
  |refine bn ?_
  |fail
 all_goals clear hJ
 all_goals simp_all [jc,encI,rv,au,get]
theorem fq (t:Task) (o:bD) (ho:o.order.length<=1000) (hc:t.sec.lock.cells.length<=1000):Fn Tryz.prog 154 [.agg t.enc,.agg o.enc] [] (.agg (t.dec o).enc) [] []:=by
 generalize hR:t.dec o=R
 unfold Task.dec at hR
 refine Fn.aO Rx (by simp) ?_
 unfold Rw SC.mk' Task.enc bD.enc
 simp only [go_sem]
 have aK:=anA t.sec o ho hc
 have hJ:=trivial
 exact aZ
theorem DU (t:Task) (k n:Int):Fn Tryz.prog 89 [.agg t.enc,I k,I n] [] (.agg (t.ev k n).enc) [] []:=by
 refine Fn.aO aip (by simp) ?_
 unfold QD SC.mk' Task.enc
 simp only [go_sem]
 exact aX
theorem jm (t:Task) (k:Int):Fn Tryz.prog 155 [.agg t.enc,I k] [] (.agg (t.jS k).enc) [] []:=by
 refine Fn.aO Mq (by simp) ?_
 unfold Ml SC.mk' Task.enc
 simp only [go_sem]
 exact aX
theorem Xi (a:aj) (t:Task) (r pc:Int) (hd:a.dir.l.length<=70000):Fn Tryz.prog 93 [.agg a.enc,.agg t.enc,I r,I pc] [] (.agg (t.look a r pc).enc) [] []:=by
 generalize hR:t.look a r pc=R
 unfold Task.look at hR
 refine Fn.aO QK (by simp) ?_
 unfold QJ SC.mk' aj.enc Task.enc
 simp only [go_sem]
 have aK:=NK a
 have aU:=acK a.dir r hd
 have bK:=vv {t with dir:=a.dir,slot:=a.dir.owner r} [a.dir.owner r] pc (by simp)
 try dsimp only at bK
 have hJ:=trivial
 exact aZ
theorem nC (a:aj) (t:Task) (k:Int) {n:Nat} (ha:a.wf n) (hal:a.aW) (hs:t.sec.wf n) (hsl:t.sec.aW):Fn Tryz.prog 94 [.agg a.enc,.agg t.enc,I k] [] (.aF [.agg (t.go a k).1.enc,.agg (t.go a k).2.1.enc,Bo (t.go a k).2.2.1,Bo (t.go a k).2.2.2.1,I (t.go a k).2.2.2.2]) [] []:=by
 generalize hR:t.go a k=R
 unfold Task.go at hR
 refine Fn.aO QM (by simp) ?_
 unfold QL SC.mk' aj.enc Task.enc
 simp only [go_sem]
 have aK:=anz a t.sec t.number k ha hal hs hsl
 have hJ:=trivial
 exact aZ
end Go.Eng
