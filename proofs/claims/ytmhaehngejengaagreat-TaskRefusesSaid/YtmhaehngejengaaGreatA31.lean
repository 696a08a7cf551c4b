/-
  Part of a proof: lemmas and definitions of this work.
  No condition.
-/
import Derived.Test.YtmhaehngejengaaGreatA12
import Derived.Test.YtmhaehngejengaaGreatA30
set_option linter.all false
set_option maxRecDepth 100000
set_option maxHeartbeats 8000000
namespace Go.Eng
open Go Go.Proofs
attribute [local go_sem] ak.enc ax.enc Task.enc Ev.enc bG.enc bf.enc dG.enc Dead.enc Dir.enc aj.enc Walk.enc aV.enc aH.enc bT.enc Setup.enc aS fD fE List.length_map
@[simp] theorem arE:encS []=[]:=rfl
@[simp] theorem arF:dm []=[]:=rfl
theorem F5 (n a b:Int):Fn Tryz.prog 182 [I n,I a,I b] [] (Bo (inB n a b)) [] []:=by
 refine Fn.aN aaN (by simp) ?_
 unfold Ny SC.mk'
 simp only [go_sem]
 have hJ:=trivial
 repeat' first
  |(first|refine sC ?_|refine sD ?_);simp only [hJ,go_sem]
  |(first|refine bF (fun hq=> ?_) (fun hq=> ?_)|refine dY (fun hq=> ?_) (fun hq=> ?_)|refine dL (fun hq=> ?_) (fun hq=> ?_))<;>simp only [hq,hJ,go_sem]
  |refine sM ?_;simp only [ay,rv,au,get,hJ,go_sem]
  |refine bn ?_
  |fail
 all_goals clear hJ
 all_goals simp_all [inB,-Int.not_lt,-Int.not_le]
theorem ao1 (i:bV):Fn Tryz.prog 198 [.agg i.enc] [] (I i.entries) [] []:=by
 generalize hR:i.entries=R
 unfold bV.entries at hR
 refine Fn.aN aiJ (by simp) ?_
 unfold SE SC.mk' bV.enc
 simp only [go_sem]
 exact aX
theorem ao2 (i:bV) (u:Setup):Fn Tryz.prog 89 [.agg i.enc,.agg u.enc] [] (I (i.val u)) [] []:=by
 generalize hR:i.val u=R
 unfold bV.val at hR
 simp only at hR
 refine Fn.aN aaF (by simp) ?_
 unfold Nk SC.mk' bV.enc Setup.enc
 simp only [go_sem]
 generalize hW:IntKind.i64.wrap (u.slots - 1)=w at hR ⊢
 by_cases k1:(i.kind==1)=true
 ·simp only [if_pos k1] at hR
  simp only [k1,fD,go_sem]
  by_cases h0:((i.bodies.length:Int)==0)=true
  ·simp only [h0,Bool.true_or,if_true] at hR
   simp only [h0,go_sem]
   exact Fin.mk0 _ rfl rfl (by rw [←hR];rfl)
  simp only [Bool.not_eq_true] at h0
  by_cases h1:6<(i.bodies.length:Int)
  ·simp only [h0,h1,Bool.false_or,decide_true,if_true] at hR
   simp only [h0,h1,fD,go_sem]
   exact Fin.mk0 _ rfl rfl (by rw [←hR];rfl)
  simp only [h0,h1,Bool.false_or,decide_false,Bool.false_eq_true,if_false] at hR
  simp only [h0,h1,fD,go_sem]
  generalize hK:WN i.bodies=K at hR
  unfold WN at hK
  refine go_loop (fun j:{j:Nat // j≤i.bodies.length∧((i.bodies.drop j).any fun b=>decide (16<b.size))=K}=>⟨2000,[(2,.ptr 8 0),(3,.ptr 16 0),(6,I j.1)],[(8,.box [I i.kind,I i.home,I i.max_,I i.vis,I i.bC,I i.to,.sl 1 (encS i.bodies),.sl 1 (dm i.tokens)]),(16,.box [I u.slots,I u.live,I u.capacity,I u.dead,I u.limit,I u.clock,I u.fQ,I u.epoch])]⟩) (fun j=>i.bodies.length - j.1) ⟨0,by omega,hK⟩ (wk [(8,8),(16,16)] []) ?_
  rintro ⟨j,hj,he⟩ B hB
  simp only [go_sem]
  by_cases e1:j<i.bodies.length
  ·have e2:decide ((j:Int)<(i.bodies.length:Int))=true:=by simp;omega
   rw [eP ⟨#[]⟩ e1] at he
   simp only [List.any_cons] at he
   have hx:=aa1 e1
   have hw:=cZ (show j≤100000 by omega)
   generalize i.bodies[j]?.getD ⟨#[]⟩=b at he hx
   simp only [e2,hx,fD,Int.toNat_natCast,go_sem]
   repeat (refine bn ?_)
   by_cases e3:(16:Int)<b.size
   ·rw [show decide (16<b.size)=true by simp;omega,Bool.true_or] at he
    rw [←he,if_pos rfl] at hR
    simp only [e3,go_sem]
    exact Fin.mk0 _ rfl rfl (by rw [←hR];rfl)
   ·rw [show decide (16<b.size)=false by simp;omega,Bool.false_or] at he
    simp only [e3,hw,go_sem]
    exact hB _ ⟨j+1,by omega,he⟩ (by simp only;omega) (wk [(8,8),(16,16)] [])
  ·have e2:decide ((j:Int)<(i.bodies.length:Int))=false:=by simp;omega
   rw [fF (by omega)] at he
   rw [←he] at hR
   simp only [e2,fD,go_sem]
   exact Fin.mk0 _ rfl rfl (by rw [←hR];rfl)
 ·simp only [if_neg k1] at hR
  simp only [Bool.not_eq_true] at k1
  simp only [k1,go_sem]
  have aI:=F5 i.home 0 w
  have aU:=F5 i.max_ 1 6
  have bK:=F5 i.vis 0 1000
  have eF:=F5 i.bC 0 w
  have iw:=F5 i.to 0 w
  have hJ:=hW
  exact aZ
theorem ji (t:Task) (r:aV) (n:Int) (h0:t.results.length≤1000) (h1:0≤t.entry∧t.entry≤1000):Fn Tryz.prog 344 [.agg t.enc,.agg r.enc,I n] [] (.agg (t.next r n).enc) [] []:=by
 generalize hR:t.next r n=R
 unfold Task.next at hR
 have hw:IntKind.i64.wrap (t.entry+1)=t.entry+1:=bH (by omega)
 have hm:t.results.length≤maxLen:=Nat.le_trans (show _≤10000 by omega) (by decide)
 have hm1:t.results.length+1≤maxLen:=Nat.le_trans (show _≤10000 by omega) (by decide)
 refine Fn.aT bY aiX (by simp) ?_
 unfold Td SC.mk' Task.enc aV.enc
 simp only [go_sem]
 have aI:=ao1 t.inv
 have hJ:=hw
 exact aZ
end Go.Eng
namespace Go.Eng
open Go Go.Proofs
attribute [local go_sem] ak.enc ax.enc Task.enc Ev.enc bG.enc bf.enc dG.enc Dead.enc Dir.enc aj.enc Walk.enc aV.enc aH.enc bT.enc Setup.enc aS fD fE List.length_map
theorem dw (t:Task) (lo hi:Int):Fn Tryz.prog 341 [.agg t.enc,I lo,I hi] [] (I (t.guard lo hi)) [] []:=by
 generalize hR:t.guard lo hi=R
 unfold Task.guard at hR
 refine Fn.aN aiU (by simp) ?_
 unfold SY SC.mk' Task.enc
 simp only [go_sem]
 exact aX
theorem kR (e:Int):Fn Tryz.prog 277 [I e] [] (.aF [.agg ak.z.enc,.agg Task.z.enc,.sl 10 [],I e]) [] []:=by
 refine Fn.aN aiQ (by simp) ?_
 unfold SQ SC.mk'
 simp only [go_sem]
 exact aX
theorem xB (t:Task) (c:List Int) (pc:Int) (hc:c.length≤1000):Fn Tryz.prog 354 [.agg t.enc,.sl 1 (encI c),I pc] [] (.agg (t.fJ c pc).enc) [] []:=by
 generalize hR:t.fJ c pc=R
 unfold Task.fJ at hR
 refine Fn.aN ai7 (by simp) ?_
 unfold TB SC.mk' Task.enc
 simp only [go_sem]
 have aI:=aoM c t.setup.limit hc
 have hJ:=trivial
 exact aZ
theorem rX (a b:Int):Fn Tryz.prog 367 [I a,I b] [] (.sl 1 (encI (jJ a b))) [] []:=by
 refine Fn.aN aji (by simp) ?_
 unfold TQ SC.mk'
 simp only [go_sem]
 have hJ:=trivial
 repeat' first
  |(first|refine sC ?_|refine sD ?_);simp only [hJ,go_sem]
  |(first|refine bF (fun hq=> ?_) (fun hq=> ?_)|refine dY (fun hq=> ?_) (fun hq=> ?_)|refine dL (fun hq=> ?_) (fun hq=> ?_))<;>simp only [hq,hJ,go_sem]
  |refine sM ?_;simp only [ay,rv,au,get,hJ,go_sem]
  |refine bn ?_
  |fail
 all_goals clear hJ
 all_goals simp_all [jJ,encI,rv,au,get]
theorem fV (t:Task) (o:bG) (ho:o.order.length≤1000) (hc:t.sec.lock.cells.length≤1000):Fn Tryz.prog 369 [.agg t.enc,.agg o.enc] [] (.agg (t.dec o).enc) [] []:=by
 generalize hR:t.dec o=R
 unfold Task.dec at hR
 refine Fn.aN ajj (by simp) ?_
 unfold TS SC.mk' Task.enc bG.enc
 simp only [go_sem]
 have aI:=ao0 t.sec o ho hc
 have hJ:=trivial
 exact aZ
theorem F6 (t:Task) (k n:Int):Fn Tryz.prog 343 [.agg t.enc,I k,I n] [] (.agg (t.ev k n).enc) [] []:=by
 refine Fn.aN aiW (by simp) ?_
 unfold Tc SC.mk' Task.enc
 simp only [go_sem]
 exact aX
theorem jR (t:Task) (k:Int):Fn Tryz.prog 409 [.agg t.enc,I k] [] (.agg (t.kK k).enc) [] []:=by
 refine Fn.aN aaW (by simp) ?_
 unfold NK SC.mk' Task.enc
 simp only [go_sem]
 exact aX
theorem X4 (a:ak) (t:Task) (r pc:Int) (hd:a.dir.l.length≤70000):Fn Tryz.prog 348 [.agg a.enc,.agg t.enc,I r,I pc] [] (.agg (t.look a r pc).enc) [] []:=by
 generalize hR:t.look a r pc=R
 unfold Task.look at hR
 refine Fn.aN ai1 (by simp) ?_
 unfold Tn SC.mk' ak.enc Task.enc
 simp only [go_sem]
 have aI:=OW a
 have aU:=acH a.dir r hd
 have bK:=xB {t with dir:=a.dir,slot:=a.dir.owner r} [a.dir.owner r] pc (by simp)
 try dsimp only at bK
 have hJ:=trivial
 exact aZ
theorem oW (a:ak) (t:Task) (k:Int) {n:Nat} (ha:a.wf n) (hal:a.aW) (hs:t.sec.wf n) (hsl:t.sec.aW):Fn Tryz.prog 349 [.agg a.enc,.agg t.enc,I k] [] (.aF [.agg (t.go a k).1.enc,.agg (t.go a k).2.1.enc,Bo (t.go a k).2.2.1,Bo (t.go a k).2.2.2.1,I (t.go a k).2.2.2.2]) [] []:=by
 generalize hR:t.go a k=R
 unfold Task.go at hR
 refine Fn.aN ai2 (by simp) ?_
 unfold Tq SC.mk' ak.enc Task.enc
 simp only [go_sem]
 have aI:=aoZ a t.sec t.number k ha hal hs hsl
 have hJ:=trivial
 exact aZ
end Go.Eng
namespace Go.Eng
open Go Go.Proofs
attribute [local go_sem] ak.enc ax.enc Task.enc Ev.enc bG.enc bf.enc dG.enc Dead.enc Dir.enc aj.enc Walk.enc aV.enc aH.enc bT.enc Setup.enc aS fD fE List.length_map
theorem lI {l:List aj} {i:Nat} (h:i<l.length):nth (l.map aj.enc) i=aj.enc (eH l i):=bZ aj.enc aj.z h
theorem ao3 {l:List ByteArray} {i:Nat} (h:i<l.length):nth (encS l) i=[.v (.string (gB l i))]:=aa1 h
theorem ao4 (t:Task) (hl:t.sec.aW) (hc:t.sec.lock.cells.length≤1000) (h1:t.sec.shards.length=1) (he:0≤t.entry∧t.entry<t.inv.bodies.length):Fn Tryz.prog 350 [.agg t.enc] [] (.aF [.agg (nK t).1.enc,.sl 10 ((nK t).2.map Ev.enc)]) [] []:=by
 generalize hR:nK t=R
 unfold nK at hR
 simp only at hR
 have hn:=lI (show 0<t.sec.shards.length by omega)
 have hsm:=oV hl 0
 have hb:=ao3 (l:=t.inv.bodies) (i:=t.entry.toNat) (by omega)
 generalize eH t.sec.shards 0=s at hR hn hsm
 generalize gB t.inv.bodies t.entry.toNat=b at hR hb
 refine Fn.aT bY ai3 (by simp) ?_
 unfold Tt SC.mk' Task.enc
 simp only [hn,aj.enc,List.length_map,go_sem]
 repeat (refine bn ?_)
 by_cases c1:s.owns t.walk.next=true
 ·simp only [c1,Bool.not_true,Bool.false_eq_true,if_false] at hR
  by_cases c2:(s.stored==(s.ready.cells.length:Int))=true
  ·simp only [if_pos c2] at hR
   generalize hw:(t.walk.oN s.low s.high).1=w at hR
   by_cases c3:w.over=true
   ·simp only [c3,Bool.not_true,Bool.false_eq_true,if_false] at hR
    have aI:=gQ t.sec
    have aU:=lG s t.walk.next hsm
    have bK:=oQ s hsm
    have eF:=vK t.walk s.low s.high
    have iw:=jY w
    have hJ:=ah c1 (ah c2 (ah c3 hw))
    repeat' first
     |(first|refine aO (jR {t with loaded:=0} 2) rfl rfl ?_|refine dh (jR {t with loaded:=0} 2) rfl rfl ?_|refine sZ ?_ (jR {t with loaded:=0} 2)|refine sY ?_ (jR {t with loaded:=0} 2));simp only [hJ,go_sem]
     |(first|refine aO (fV {t with loaded:=2,walk:=w} t.sec.bg (by simp [ax.bg]) hc) rfl rfl ?_|refine dh (fV {t with loaded:=2,walk:=w} t.sec.bg (by simp [ax.bg]) hc) rfl rfl ?_|refine sZ ?_ (fV {t with loaded:=2,walk:=w} t.sec.bg (by simp [ax.bg]) hc)|refine sY ?_ (fV {t with loaded:=2,walk:=w} t.sec.bg (by simp [ax.bg]) hc));simp only [hJ,go_sem]
     |(first|refine sC ?_|refine sD ?_|refine sZ ?_|refine sY ?_|refine sF ?_);simp only [hJ,go_sem]
     |(first|refine bF (fun hq=> ?_) (fun hq=> ?_)|refine dY (fun hq=> ?_) (fun hq=> ?_)|refine dL (fun hq=> ?_) (fun hq=> ?_))<;>simp only [hq,hJ,go_sem]
     |refine sM ?_;simp only [ay,rv,au,get,hJ,go_sem]
     |refine bn ?_
     |fail
    all_goals clear aI aU bK eF iw hJ
    all_goals (subst hR;first|rfl|simp_all [rv,au,get,Task.kK,dD.enc,ax.enter,ak.enc,ax.enc,Task.enc,Ev.enc,bG.enc,bf.enc,dG.enc,Dead.enc,Dir.enc,aj.enc,Walk.enc,aV.enc,aH.enc,-Int.not_lt,-Int.not_le]<;>try rfl)
   ·simp only [Bool.not_eq_true] at c3
    simp only [c3,Bool.not_false,if_true] at hR
    have aI:=gQ t.sec
    have aU:=lG s t.walk.next hsm
    have bK:=oQ s hsm
    have eF:=vK t.walk s.low s.high
    have iw:=jY w
    have hJ:=ah c1 (ah c2 (ah c3 hw))
    repeat' first
     |(first|refine aO (jR {t with loaded:=0} 2) rfl rfl ?_|refine dh (jR {t with loaded:=0} 2) rfl rfl ?_|refine sZ ?_ (jR {t with loaded:=0} 2)|refine sY ?_ (jR {t with loaded:=0} 2));simp only [hJ,go_sem]
     |(first|refine aO (fV {t with loaded:=0,walk:=w} t.sec.bg (by simp [ax.bg]) hc) rfl rfl ?_|refine dh (fV {t with loaded:=0,walk:=w} t.sec.bg (by simp [ax.bg]) hc) rfl rfl ?_|refine sZ ?_ (fV {t with loaded:=0,walk:=w} t.sec.bg (by simp [ax.bg]) hc)|refine sY ?_ (fV {t with loaded:=0,walk:=w} t.sec.bg (by simp [ax.bg]) hc));simp only [hJ,go_sem]
     |(first|refine sC ?_|refine sD ?_|refine sZ ?_|refine sY ?_|refine sF ?_);simp only [hJ,go_sem]
     |(first|refine bF (fun hq=> ?_) (fun hq=> ?_)|refine dY (fun hq=> ?_) (fun hq=> ?_)|refine dL (fun hq=> ?_) (fun hq=> ?_))<;>simp only [hq,hJ,go_sem]
     |refine sM ?_;simp only [ay,rv,au,get,hJ,go_sem]
     |refine bn ?_
     |fail
    all_goals clear aI aU bK eF iw hJ
    all_goals (subst hR;first|rfl|simp_all [rv,au,get,Task.kK,dD.enc,ax.enter,ak.enc,ax.enc,Task.enc,Ev.enc,bG.enc,bf.enc,dG.enc,Dead.enc,Dir.enc,aj.enc,Walk.enc,aV.enc,aH.enc,-Int.not_lt,-Int.not_le]<;>try rfl)
  ·simp only [if_neg c2] at hR
   simp only [Bool.not_eq_true] at c2
   generalize hr:Fg (Ah t.id) s.low s.high=ro at hR
   generalize hm:(ai.new t.id ro t.sec.aG.epoch t.sec.aG.clock b).1=m at hR
   have aI:=gQ t.sec
   have aU:=lG s t.walk.next hsm
   have bK:=oQ s hsm
   have eF:=aa8 t.id
   have iw:=aa4 (Ah t.id) s.low s.high
   have oG:=anv t.id ro t.sec.aG.epoch t.sec.aG.clock b
   have F7:=acz s m hsm
   have hJ:=ah c1 (ah c2 (ah hr (ah hm hb)))
   repeat' first
    |(first|refine aO (jR {t with loaded:=0} 2) rfl rfl ?_|refine dh (jR {t with loaded:=0} 2) rfl rfl ?_|refine sZ ?_ (jR {t with loaded:=0} 2)|refine sY ?_ (jR {t with loaded:=0} 2));simp only [hJ,ai.enc,go_sem]
    |(first|refine aO (fV {t with loaded:=1} {t.sec.bg with shards:=[(s.put m).1],order:=[0]} (by simp) hc) rfl rfl ?_|refine dh (fV {t with loaded:=1} {t.sec.bg with shards:=[(s.put m).1],order:=[0]} (by simp) hc) rfl rfl ?_|refine sZ ?_ (fV {t with loaded:=1} {t.sec.bg with shards:=[(s.put m).1],order:=[0]} (by simp) hc)|refine sY ?_ (fV {t with loaded:=1} {t.sec.bg with shards:=[(s.put m).1],order:=[0]} (by simp) hc));simp only [hJ,ai.enc,go_sem]
    |(first|refine sC ?_|refine sD ?_|refine sZ ?_|refine sY ?_|refine sF ?_);simp only [hJ,ai.enc,go_sem]
    |(first|refine bF (fun hq=> ?_) (fun hq=> ?_)|refine dY (fun hq=> ?_) (fun hq=> ?_)|refine dL (fun hq=> ?_) (fun hq=> ?_))<;>simp only [hq,hJ,ai.enc,go_sem]
    |refine sM ?_;simp only [ay,rv,au,get,hJ,ai.enc,go_sem]
    |refine bn ?_
    |fail
   all_goals clear aI aU bK eF iw oG F7 hJ
   all_goals (subst hR;first|rfl|simp_all [rv,au,get,Task.kK,dD.enc,ai.enc,ax.enter,ak.enc,ax.enc,Task.enc,Ev.enc,bG.enc,bf.enc,dG.enc,Dead.enc,Dir.enc,aj.enc,Walk.enc,aV.enc,aH.enc,-Int.not_lt,-Int.not_le]<;>try rfl)
 ·simp only [Bool.not_eq_true] at c1
  simp only [c1,Bool.not_false,if_true] at hR
  have aI:=gQ t.sec
  have aU:=lG s t.walk.next hsm
  have bK:=fV {t with loaded:=0} t.sec.bg (by simp [ax.bg]) hc
  try dsimp only at bK
  have hJ:=c1
  exact aZ
end Go.Eng
namespace Go.Eng
open Go Go.Proofs
attribute [local go_sem] ak.enc ax.enc Task.enc Ev.enc bG.enc bf.enc dG.enc Dead.enc Dir.enc aj.enc Walk.enc aV.enc aH.enc bT.enc Setup.enc aS fD fE List.length_map
abbrev dW (x:iH):AV:= .aF [.agg x.1.enc,.agg x.2.1.enc,.sl 10 (x.2.2.1.map Ev.enc),I x.2.2.2]
theorem ao5 (a:ak):a.load 3=(a.fQ,0):=rfl
theorem adg (a:ak):a.load 1=(a.epoch,0):=rfl
theorem lJ {t:Task} (h:t.aW):t.results.length≤1000:=by have:=h.re;have:=h.en;have:=h.e6;omega
theorem lK {t:Task} (h:t.aW):0≤t.entry∧t.entry≤1000:=by have:=h.e0;have:=h.en;have:=h.e6;omega
theorem O1 {n:Nat} {a:ak} (h:a.wf n):a.dir.l.length≤70000:=by have:=DF h.dv;omega
structure Bz (n:Nat) (t x:Task) (d e:Bool):Prop where
 l:x.aW
 w:x.sec.wf n
 c:x.sec.lock.cells=t.sec.lock.cells
 i:x.inv=t.inv
 en:x.entry=t.entry
 hd:x.hnd=t.hnd
 su:x.setup=t.setup
 p4:d=true→x.sec.phase=4
 p9:e=true→x.sec.phase=9
theorem go_ok {n:Nat} {a:ak} {t:Task} {k:Int} (ha:a.wf n) (hal:a.aW) (hs:t.sec.wf n) (hl:t.aW) (e:(t.go a k).2.2.2.2=0):Bz n t (t.go a k).2.1 (t.go a k).2.2.1 (t.go a k).2.2.2.1:=by
 obtain ⟨g1,s,g2,g3,g4,g5,g6⟩:=Task.go_wf ha hs (k:=k) e
 obtain ⟨l1,l2⟩:=Task.DI hal ha hl (k:=k) e
 have h2:(t.go a k).2.1.sec=s:=by rw [g2]
 exact ⟨l2,by rw [h2];exact g3,by rw [h2];exact g4,by rw [g2],by rw [g2],by rw [g2],by rw [g2],fun h=>by rw [h2];exact g5 h,fun h=>by rw [h2];exact g6 h⟩
theorem Bz.one {n:Nat} {t x:Task} {d e:Bool} (g:Bz n t x d e) (h:dB n t.sec.lock.cells=1) (hp:3≤x.sec.phase):x.sec.shards.length=1:=by
 have:=(g.w.q3 hp).2
 rw [g.c] at this
 omega
theorem Bz.cl {n:Nat} {t x:Task} {d e:Bool} (g:Bz n t x d e):x.sec.lock.cells.length≤1000:=by have:=g.w.lk.l3;omega
theorem ao6 (a:ak) (t:Task) (k:Int) {n:Nat} (ha:a.wf n) (hal:a.aW) (ht:t.wf n) (hl:t.aW) (hk:t.inv.kind=1) (hd:t.dn=false):Fn Tryz.prog 278 [.agg a.enc,.agg t.enc,I k] [] (dW (qp a t k)) [] []:=by
 generalize hR:qp a t k=R
 unfold qp at hR
 simp only at hR
 have hg:t.guard 1 1=0:=by simp [Task.guard,hd,hk]
 simp only [hg,ne_eq,not_true_eq_false,if_false] at hR
 have h1:=lJ hl
 have h2:=lK hl
 have hdl:=O1 ha
 have ld:=ao5 a
 by_cases p0:(t.pc==0)=true
 ·simp only [if_pos p0] at hR
  refine Fn.aT dA Aa (by simp) ?_
  unfold wJ SC.mk' ak.enc Task.enc
  simp only [go_sem]
  have aI:=dw t 1 1
  have aU:=Bj a 3
  have bK:=F6 {t with loaded:=a.fQ} 2 k
  try dsimp only at bK
  have eF:=ji {t with loaded:=a.fQ} {aV.z with err:=6} k h1 h2
  try dsimp only at eF
  have hJ:=ah hg (ah p0 ld)
  exact aY
 simp only [if_neg p0] at hR
 simp only [Bool.not_eq_true] at p0
 by_cases p1:(t.pc==1)=true
 ·simp only [if_pos p1] at hR
  refine Fn.aT dA Aa (by simp) ?_
  unfold wJ SC.mk' ak.enc Task.enc
  simp only [go_sem]
  generalize hw:IntKind.i64.wrap (t.loaded+1)=w at hR ⊢
  have aI:=dw t 1 1
  have aU:=acS a 3 t.loaded w
  have bK:=kR (a.nG 3 t.loaded w).2.2
  have eF:=aa8 t.loaded
  have iw:=ac9 (Ah t.loaded)
  have hJ:=ah hg (ah p0 (ah p1 hw))
  exact aY
 simp only [if_neg p1] at hR
 simp only [Bool.not_eq_true] at p1
 by_cases p2:(t.pc==2)=true
 ·simp only [if_pos p2] at hR
  refine Fn.aT dA Aa (by simp) ?_
  unfold wJ SC.mk' ak.enc Task.enc
  simp only [go_sem]
  have aI:=dw t 1 1
  have aU:=X4 a t t.walk.next 3 hdl
  have hJ:=ah hg (ah p0 (ah p1 p2))
  exact aY
 simp only [if_neg p2] at hR
 simp only [Bool.not_eq_true] at p2
 have hs:t.sec.wf n∧dB n t.sec.lock.cells=1:=by
  have hpc:=(ht.k1 hk).2
  simp only [beq_eq_false_iff_ne] at p0 p1 p2
  rcases hpc with h|h|h|h<;>first|omega|exact h
 have hgo:=oW a t k ha hal hs.1 hl.se
 have G:=go_ok (k:=k) ha hal hs.1 hl
 generalize t.go a k=x at hR hgo G
 by_cases e1:x.2.2.2.2≠0
 ·rw [if_pos e1] at hR
  have e1':(x.2.2.2.2 !=0)=true:=by simpa using e1
  refine Fn.aT dA Aa (by simp) ?_
  unfold wJ SC.mk' ak.enc Task.enc
  simp only [go_sem]
  have aI:=dw t 1 1
  have aU:=kR x.2.2.2.2
  have hJ:=ah hg (ah p0 (ah p1 (ah p2 e1')))
  exact aY
 rw [if_neg e1] at hR
 have e1':(x.2.2.2.2 !=0)=false:=by simpa using e1
 have G:=G (Decidable.not_not.1 e1)
 have hrl:=lJ G.l
 have hel:=lK G.l
 by_cases e2:x.2.2.1=true
 ·rw [if_pos e2] at hR
  have hb:x.2.1.entry<x.2.1.inv.bodies.length:=by
   have:=G.l.en
   unfold bV.entries at this
   rw [G.i,hk] at this
   rw [G.i]
   simpa using this
  have hdc:=ao4 x.2.1 G.l.se G.cl (G.one hs.2 (by rw [G.p4 e2];omega)) ⟨G.l.e0,hb⟩
  refine Fn.aT dA Aa (by simp) ?_
  unfold wJ SC.mk' ak.enc Task.enc
  simp only [go_sem]
  have aI:=dw t 1 1
  have hJ:=ah hg (ah p0 (ah p1 (ah p2 (ah e1' e2))))
  exact aY
 rw [if_neg e2] at hR
 simp only [Bool.not_eq_true] at e2
 by_cases e3:x.2.2.2.1=true
 ·simp only [e3,Bool.not_true,Bool.false_eq_true,if_false] at hR
  refine Fn.aT dA Aa (by simp) ?_
  unfold wJ SC.mk' ak.enc Task.enc
  simp only [go_sem]
  have aI:=dw t 1 1
  have aU:=ji x.2.1 {aV.z with id:=x.2.1.id} k hrl hel
  try dsimp only at aU
  have bK:=ji x.2.1 {aV.z with err:=3} k hrl hel
  try dsimp only at bK
  have hJ:=ah hg (ah p0 (ah p1 (ah p2 (ah e1' (ah e2 e3)))))
  exact aY
 ·simp only [Bool.not_eq_true] at e3
  simp only [e3,Bool.not_false,if_true] at hR
  refine Fn.aT dA Aa (by simp) ?_
  unfold wJ SC.mk' ak.enc Task.enc
  simp only [go_sem]
  have aI:=dw t 1 1
  have hJ:=ah hg (ah p0 (ah p1 (ah p2 (ah e1' (ah e2 e3)))))
  exact aY
end Go.Eng
