/-
  Part of a proof: lemmas and definitions of this work.
  No condition.
-/
import Derived.Test.YtmfankbjapjjiaaGreatA08
import Derived.Test.YtmfankbjapjjiaaGreatA26
set_option linter.all false
set_option maxRecDepth 100000
set_option maxHeartbeats 8000000
namespace Go.Eng
open Go Go.Proofs
attribute [local go_sem] aj.enc av.enc Task.enc Ev.enc bE.enc aW.enc cB.enc Dead.enc Dir.enc ak.enc Walk.enc aU.enc aI.enc bN.enc Setup.enc aS dX dY List.length_map
@[simp] theorem ar2:encS []=[]:=rfl
@[simp] theorem ar3:bW []=[]:=rfl
theorem Kn (n a b:Int):Fn Tryz.prog 160 [I n,I a,I b] [] (Bo (dQ n a b)) [] []:=by
 refine Fn.aO Ml (by simp) ?_
 unfold QD SC.mk'
 simp only [go_sem]
 have hJ:=trivial
 repeat' first
  |(first|refine sC ?_|refine sD ?_);simp only [hJ,go_sem]
  |(first|refine bD (fun hq=> ?_) (fun hq=> ?_)|refine dS (fun hq=> ?_) (fun hq=> ?_)|refine dD (fun hq=> ?_) (fun hq=> ?_))<;>simp only [hq,hJ,go_sem]
  |refine sM ?_;simp only [ay,rv,au,get,hJ,go_sem]
  |refine bn ?_
  |fail
 all_goals clear hJ
 all_goals simp_all [dQ,-Int.not_lt,-Int.not_le]
theorem an0 (i:bJ):Fn Tryz.prog 158 [.agg i.enc] [] (I i.entries) [] []:=by
 generalize hR:i.entries=R
 unfold bJ.entries at hR
 refine Fn.aO QC (by simp) ?_
 unfold QB SC.mk' bJ.enc
 simp only [go_sem]
 exact aX
theorem an1 (i:bJ) (u:Setup):Fn Tryz.prog 108 [.agg i.enc,.agg u.enc] [] (I (i.val u)) [] []:=by
 generalize hR:i.val u=R
 unfold bJ.val at hR
 simp only at hR
 refine Fn.aO JL (by simp) ?_
 unfold Qu SC.mk' bJ.enc Setup.enc
 simp only [go_sem]
 generalize hW:IntKind.i64.wrap (u.slots - 1)=w at hR ⊢
 by_cases k1:(i.kind==1)=true
 ·simp only [if_pos k1] at hR
  simp only [k1,dX,go_sem]
  by_cases h0:((i.bodies.length:Int)==0)=true
  ·simp only [h0,Bool.true_or,if_true] at hR
   simp only [h0,go_sem]
   exact Fin.aD _ rfl rfl (by rw [<-hR];rfl)
  simp only [Bool.not_eq_true] at h0
  by_cases h1:6<(i.bodies.length:Int)
  ·simp only [h0,h1,Bool.false_or,decide_true,if_true] at hR
   simp only [h0,h1,dX,go_sem]
   exact Fin.aD _ rfl rfl (by rw [<-hR];rfl)
  simp only [h0,h1,Bool.false_or,decide_false,Bool.false_eq_true,if_false] at hR
  simp only [h0,h1,dX,go_sem]
  generalize hK:VX i.bodies=K at hR
  unfold VX at hK
  refine go_loop (fun j:{j:Nat // j<=i.bodies.length/\((i.bodies.drop j).any fun b=>decide (16<b.size))=K}=>⟨2000,[(2,.ptr 8 0),(3,.ptr 16 0),(6,I j.1)],[(8,.box [I i.kind,I i.home,I i.max_,I i.bC,I i.bA,I i.to,.sl 1 (encS i.bodies),.sl 1 (bW i.tokens)]),(16,.box [I u.slots,I u.live,I u.capacity,I u.dead,I u.limit,I u.clock,I u.fA,I u.epoch])]⟩) (fun j=>i.bodies.length - j.1) ⟨0,by omega,hK⟩ (wk [(8,8),(16,16)] []) ?_
  rintro ⟨j,hj,he⟩ B hB
  simp only [go_sem]
  by_cases e1:j<i.bodies.length
  ·have e2:decide ((j:Int)<(i.bodies.length:Int))=true:=by simp;omega
   rw [eD ⟨#[]⟩ e1] at he
   simp only [List.any_cons] at he
   have hx:=abI e1
   have hw:=bQ (show j<=100000 by omega)
   generalize i.bodies[j]?.getD ⟨#[]⟩=b at he hx
   simp only [e2,hx,dX,Int.toNat_natCast,go_sem]
   repeat (refine bn ?_)
   by_cases e3:(16:Int)<b.size
   ·rw [show decide (16<b.size)=true by simp;omega,Bool.true_or] at he
    rw [<-he,if_pos rfl] at hR
    simp only [e3,go_sem]
    exact Fin.aD _ rfl rfl (by rw [<-hR];rfl)
   ·rw [show decide (16<b.size)=false by simp;omega,Bool.false_or] at he
    simp only [e3,hw,go_sem]
    exact hB _ ⟨j+1,by omega,he⟩ (by simp only;omega) (wk [(8,8),(16,16)] [])
  ·have e2:decide ((j:Int)<(i.bodies.length:Int))=false:=by simp;omega
   rw [eO (by omega)] at he
   rw [<-he] at hR
   simp only [e2,dX,go_sem]
   exact Fin.aD _ rfl rfl (by rw [<-hR];rfl)
 ·simp only [if_neg k1] at hR
  simp only [Bool.not_eq_true] at k1
  simp only [k1,go_sem]
  have aK:=Kn i.home 0 w
  have aV:=Kn i.max_ 1 6
  have bL:=Kn i.bC 0 1000
  have dV:=Kn i.bA 0 w
  have fT:=Kn i.to 0 w
  have hJ:=hW
  exact aZ
theorem iI (t:Task) (r:aU) (n:Int) (h0:t.results.length<=1000) (h1:0<=t.entry/\t.entry<=1000):Fn Tryz.prog 263 [.agg t.enc,.agg r.enc,I n] [] (.agg (t.next r n).enc) [] []:=by
 generalize hR:t.next r n=R
 unfold Task.next at hR
 have hw:IntKind.i64.wrap (t.entry+1)=t.entry+1:=bF (by omega)
 have hm:t.results.length<=maxLen:=Nat.le_trans (show _<=10000 by omega) (by decide)
 have hm1:t.results.length+1<=maxLen:=Nat.le_trans (show _<=10000 by omega) (by decide)
 refine Fn.aT bS QS (by simp) ?_
 unfold QR SC.mk' Task.enc aU.enc
 simp only [go_sem]
 have aK:=an0 t.inv
 have hJ:=hw
 exact aZ
end Go.Eng
namespace Go.Eng
open Go Go.Proofs
attribute [local go_sem] aj.enc av.enc Task.enc Ev.enc bE.enc aW.enc cB.enc Dead.enc Dir.enc ak.enc Walk.enc aU.enc aI.enc bN.enc Setup.enc aS dX dY List.length_map
theorem bZ (t:Task) (lo hi:Int):Fn Tryz.prog 260 [.agg t.enc,I lo,I hi] [] (I (t.guard lo hi)) [] []:=by
 generalize hR:t.guard lo hi=R
 unfold Task.guard at hR
 refine Fn.aO QL (by simp) ?_
 unfold QK SC.mk' Task.enc
 simp only [go_sem]
 exact aX
theorem jY (e:Int):Fn Tryz.prog 210 [I e] [] (.aG [.agg aj.z.enc,.agg Task.z.enc,.sl 10 [],I e]) [] []:=by
 refine Fn.aO ai7 (by simp) ?_
 unfold QI SC.mk'
 simp only [go_sem]
 exact aX
theorem vg (t:Task) (c:List Int) (pc:Int) (hc:c.length<=1000):Fn Tryz.prog 273 [.agg t.enc,.sl 1 (encI c),I pc] [] (.agg (t.eX c pc).enc) [] []:=by
 generalize hR:t.eX c pc=R
 unfold Task.eX at hR
 refine Fn.aO Rh (by simp) ?_
 unfold Rf SC.mk' Task.enc
 simp only [go_sem]
 have aK:=anJ c t.setup.limit hc
 have hJ:=trivial
 exact aZ
theorem qw (a b:Int):Fn Tryz.prog 286 [I a,I b] [] (.sl 1 (encI (jg a b))) [] []:=by
 refine Fn.aO aji (by simp) ?_
 unfold Rw SC.mk'
 simp only [go_sem]
 have hJ:=trivial
 repeat' first
  |(first|refine sC ?_|refine sD ?_);simp only [hJ,go_sem]
  |(first|refine bD (fun hq=> ?_) (fun hq=> ?_)|refine dS (fun hq=> ?_) (fun hq=> ?_)|refine dD (fun hq=> ?_) (fun hq=> ?_))<;>simp only [hq,hJ,go_sem]
  |refine sM ?_;simp only [ay,rv,au,get,hJ,go_sem]
  |refine bn ?_
  |fail
 all_goals clear hJ
 all_goals simp_all [jg,encI,rv,au,get]
theorem fo (t:Task) (o:bE) (ho:o.order.length<=1000) (hc:t.sec.lock.cells.length<=1000):Fn Tryz.prog 288 [.agg t.enc,.agg o.enc] [] (.agg (t.dec o).enc) [] []:=by
 generalize hR:t.dec o=R
 unfold Task.dec at hR
 refine Fn.aO Rz (by simp) ?_
 unfold Ry SC.mk' Task.enc bE.enc
 simp only [go_sem]
 have aK:=anX t.sec o ho hc
 have hJ:=trivial
 exact aZ
theorem Ko (t:Task) (k n:Int):Fn Tryz.prog 262 [.agg t.enc,I k,I n] [] (.agg (t.ev k n).enc) [] []:=by
 refine Fn.aO aja (by simp) ?_
 unfold QO SC.mk' Task.enc
 simp only [go_sem]
 exact aX
theorem jr (t:Task) (k:Int):Fn Tryz.prog 320 [.agg t.enc,I k] [] (.agg (t.jS k).enc) [] []:=by
 refine Fn.aO MN (by simp) ?_
 unfold ML SC.mk' Task.enc
 simp only [go_sem]
 exact aX
theorem Xm (a:aj) (t:Task) (r pc:Int) (hd:a.dir.l.length<=70000):Fn Tryz.prog 267 [.agg a.enc,.agg t.enc,I r,I pc] [] (.agg (t.look a r pc).enc) [] []:=by
 generalize hR:t.look a r pc=R
 unfold Task.look at hR
 refine Fn.aO Q0 (by simp) ?_
 unfold QZ SC.mk' aj.enc Task.enc
 simp only [go_sem]
 have aK:=NM a
 have aV:=adk a.dir r hd
 have bL:=vg {t with dir:=a.dir,slot:=a.dir.owner r} [a.dir.owner r] pc (by simp)
 try dsimp only at bL
 have hJ:=trivial
 exact aZ
theorem nE (a:aj) (t:Task) (k:Int) {n:Nat} (ha:a.wf n) (hal:a.bf) (hs:t.sec.wf n) (hsl:t.sec.bf):Fn Tryz.prog 268 [.agg a.enc,.agg t.enc,I k] [] (.aG [.agg (t.go a k).1.enc,.agg (t.go a k).2.1.enc,Bo (t.go a k).2.2.1,Bo (t.go a k).2.2.2.1,I (t.go a k).2.2.2.2]) [] []:=by
 generalize hR:t.go a k=R
 unfold Task.go at hR
 refine Fn.aO Q6 (by simp) ?_
 unfold Q5 SC.mk' aj.enc Task.enc
 simp only [go_sem]
 have aK:=anW a t.sec t.number k ha hal hs hsl
 have hJ:=trivial
 exact aZ
end Go.Eng
